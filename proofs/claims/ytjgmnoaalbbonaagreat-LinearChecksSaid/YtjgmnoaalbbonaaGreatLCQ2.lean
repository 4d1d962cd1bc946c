/- Texts of the proof of linearChecks_holds, put together by a small program of ours (names shortened, spaces taken out). No condition beyond the given statement. -/
import Derived.Test.YtjgmnoaalbbonaaGreatLCQ1
set_option linter.unusedVariables false
set_option linter.unusedSimpArgs false
set_option linter.unnecessarySimpa false
noncomputable section
section
namespace Go.Proofs.YtjgmnoaalbbonaaGreatA.Am
open Go.RowKit (Below)
variable {P:Program} {μ:Mu} {H H':ae} {w:World} {B:Nat}
theorem uh: ∀(d:Nat) {t:TypeId} {x y x' y':Value} {b:Bool},VR μ x x'→VR μ y y'→jx P d t x y=some b→∀w,(Op.equalIn d t x' y').run P w= .ok b w:=by
 intro d;induction d with
 |zero=>intro t x y x' y' b hx hy h;simp[jx] at h
 |succ d ih=>
  intro t x y x' y' b hx hy h w;unfold jx at h;split at h
  ·rename_i a c hu;rw[hx.bool,hy.bool];cases h;simp[Op.equalIn,run_underlying hu]
  ·rename_i k a k' c hu;rw[hx.int,hy.int];split at h
   ·rename_i e;cases h;simp[Op.equalIn,run_underlying hu,e]
   ·cases h
  ·rename_i a c hu;rw[hx.string,hy.string];cases h;simp[Op.equalIn,run_underlying hu]
  ·rename_i c hu;obtain⟨c',rfl,hn⟩:=hy.qB;rw[hx.adC];cases h;simp[Op.equalIn,run_underlying hu,hn]
  ·rename_i a hu;obtain⟨i,off,l,rfl,hl,rfl⟩:=hx.oW;rw[hy.adC];cases h;simp[Op.equalIn,run_underlying hu]
  ·rename_i n c a n' c' hu;obtain⟨rfl,rfl,rfl⟩:=hx.ji;obtain⟨_,a',c2,rfl,hn,_⟩:=hy.gC;cases h;simp[Op.equalIn,run_underlying hu,hn]
  ·rename_i a n c n' c' hu;obtain⟨rfl,rfl,rfl⟩:=hy.ji;obtain⟨_,a',c2,rfl,hn,_⟩:=hx.gC;cases h;cases a' with
   |none=>simp at hn
   |some a'=>simp[Op.equalIn,run_underlying hu]
  ·rename_i hu;rw[hx.nilFunc,hy.nilFunc];cases h;simp[Op.equalIn,run_underlying hu]
  ·rename_i hu;obtain⟨fn',f',c',rfl⟩:=hy.tX;rw[hx.nilFunc];cases h;simp[Op.equalIn,run_underlying hu]
  ·rename_i hu;obtain⟨fn',f',c',rfl⟩:=hx.tX;rw[hy.nilFunc];cases h;simp[Op.equalIn,run_underlying hu]
  ·rename_i fields xs ys hu;obtain⟨xs',rfl,hxs⟩:=hx.rG;obtain⟨ys',rfl,hys⟩:=hy.rG;split at h
   ·cases h
   ·rename_i hs;have hs':P.stoodInHeld t=false:=by simpa using hs
    have key: ∀(l:List Field),eqFields P (jx P d) xs ys l=some b→(forIn (m:=Sem) l ((none:Option Bool),()) λf __s=>
      if f.name= "_" then pure (ForInStep.yield (none,()))
      else do
       let u ←part f.type xs' f.offset
       let v ←part f.type ys' f.offset
       let e ←Op.equalIn d f.type u v
       if e=false then pure (ForInStep.done (some false,())) else pure (ForInStep.yield (none,()))).run P w= .ok (if b then(none,()) else(some false,())) w:=by
     intro l;induction l with
     |nil=>intro hb;simp only[eqFields] at hb;cases hb;rfl
     |cons f r Uk=>
      intro hb;simp only[eqFields] at hb;rw[List.forIn_cons];by_cases hn:f.name= "_"
      ·rw[if_pos hn] at hb;simp only[hn,if_true,Sem.run_bind,Sem.run_pure,Result.andThen_ok];exact Uk hb
      ·rw[if_neg hn] at hb;cases Qr:apart P f.type xs f.offset with
       |none=>simp only[Qr] at hb;cases hb
       |some u=>
        cases Qs:apart P f.type ys f.offset with
        |none=>simp only[Qr,Qs] at hb;cases hb
        |some v=>
         simp only[Qr,Qs] at hb;obtain⟨u',ru,vu⟩:=nh hxs Qr w;obtain⟨v',rv,vv⟩:=nh hys Qs w;cases he:jx P d f.type u v with
         |none=>rw[he] at hb;cases hb
         |some e=>
          have hr:=ih vu vv he w;rw[he] at hb;cases e with
          |false=>
           cases hb;simp[hn,ru,rv,hr]
          |true=>
           simp only[hn,if_false,Sem.run_bind,ru,rv,hr,Result.andThen_ok,Bool.true_eq_false,Sem.run_pure];exact Uk hb
    have k:=key fields.toList h;simp[Op.equalIn,run_underlying hu,hs'];rw[←Array.forIn_toList,k];cases b<;>simp
  ·cases h
theorem El {op:BinOp}{k:IntKind}{a b:Int}{v:Value}(hs:op≠ .shl∧op≠ .shr)(h:kf op k a b=some v)(t:TypeId)(w:World):
  (binOp op t (.int k a) (.int k b)).run P w= .ok v w∧cF v=true:=by
 cases op<;>simp only[kf] at h<;>first
  | (exact absurd rfl hs.1)| (exact absurd rfl hs.2)
  | (cases h;exact⟨by simp[binOp,Op.intArith,Op.intCmp,Op.intBits,bits],rfl⟩)
  | (
   split at h
   ·cases h
   ·rename_i hb;cases h;exact⟨by simp[binOp,Op.intDiv,hb],rfl⟩)
theorem ui {op:BinOp}{k k':IntKind}{a b:Int}{v:Value}(hs:op= .shl∨op= .shr)(h:sU op k a b=some v)(t:TypeId)(w:World):
  (binOp op t (.int k a) (.int k' b)).run P w= .ok v w∧cF v=true:=by
 unfold sU at h;split at h
 ·cases h
 ·rename_i hb;rcases hs with rfl|rfl<;>(simp only at h;cases h;exact⟨by simp[binOp,Op.shift,hb],rfl⟩)
theorem I7 {op:BinOp}{a b:ByteArray}{v:Value}(h:YX op a b=some v)(t:TypeId)(w:World):
  (binOp op t (.string a) (.string b)).run P w= .ok v w∧cF v=true:=by
 cases op<;>simp only[YX,tU] at h<;>first
  | (cases h;exact⟨by simp[binOp,Op.stringOp],rfl⟩)
  | (cases h)
theorem ig {op:BinOp}{t:TypeId}{ox oy:Operand}{x y:Value}(h1:x≠ .nilIface)(h2: ∀c,x≠ .agg c)(w:World):
  (eqGuard op t ox oy x y).run P w= .ok () w:=by
 by_cases Du:op= .eql∨op= .neq
 ·rcases Du with rfl|rfl<;>(cases x<;>first|rfl| (exact absurd rfl h1)| (exact absurd rfl (h2 _)))
 ·cases op<;>first|rfl| (exact absurd (.inl rfl) Du)| (exact absurd (.inr rfl) Du)
theorem Nk {op:BinOp}{t:TypeId}{ox oy:Operand}{x y:Array Value}(h:P.eqGuardType P.depth t=false)(w:World):
  (eqGuard op t ox oy (.agg x) (.agg y)).run P w= .ok () w:=by
 by_cases Du:op= .eql∨op= .neq
 ·rcases Du with rfl|rfl<;>simp[eqGuard,h]
 ·cases op<;>first|rfl| (exact absurd (.inl rfl) Du)| (exact absurd (.inr rfl) Du)
theorem zd {op:BinOp}{t:TypeId}{x y x' y' v:Value}(hx:VR μ x x')(hy:VR μ y y')(h:aj P op t x y=some v)(ox oy:Operand)(w:World):
  (do eqGuard op t ox oy x' y';binOp op t x' y').run P w= .ok v w∧cF v=true:=by
 have ze: ∀{op:BinOp} {x y:Value},VR μ x x'→VR μ y y'→
   (match op with| .eql=>(jx P Op.maxDepth t x y).map Value.bool| .neq=>(jx P Op.maxDepth t x y).map λb=>Value.bool (!b)|_=>none)=some v→
   (∀w,(binOp .eql t x' y').run P w=(do pure (Value.bool (←Op.equal t x' y')):Sem Value).run P w)→
   (∀w,(binOp .neq t x' y').run P w=(do pure (Value.bool (!(←Op.equal t x' y'))):Sem Value).run P w)→(binOp op t x' y').run P w= .ok v w∧cF v=true:=by
  intro op x y hx hy h e1 e2;split at h
  ·rw[Option.map_eq_some_iff] at h;obtain⟨b,hb,rfl⟩:=h;rw[e1];exact⟨by simp[Op.equal,uh _ hx hy hb w],rfl⟩
  ·rw[Option.map_eq_some_iff] at h;obtain⟨b,hb,rfl⟩:=h;rw[e2];exact⟨by simp[Op.equal,uh _ hx hy hb w],rfl⟩
  ·cases h
 unfold aj at h;split at h
 ·rename_i k a k' b;obtain rfl:=hx.int;obtain rfl:=hy.int;simp only[Sem.run_bind,ig (P:=P) (op:=op) (t:=t) (ox:=ox) (oy:=oy) (x:=.int k a) (y:=.int k' b) (by simp) (by simp) w,Result.andThen_ok]
  split at h
  ·exact ui (.inl rfl) h t w
  ·exact ui (.inr rfl) h t w
  ·rename_i n1 n2;split at h
   ·rename_i e;subst e;exact El ⟨λe=>n1 e,λe=>n2 e⟩ h t w
   ·cases h
 ·rename_i a b;obtain rfl:=hx.string;obtain rfl:=hy.string;simp only[Sem.run_bind,ig (P:=P) (op:=op) (t:=t) (ox:=ox) (oy:=oy) (x:=.string a) (y:=.string b) (by simp) (by simp) w,Result.andThen_ok]
  exact I7 h t w
 ·obtain⟨a',rfl,ha⟩:=hx.rG;obtain⟨b',rfl,hb⟩:=hy.rG;split at h
  ·cases h
  ·rename_i hg;simp only[Sem.run_bind,Nk (P:=P) (op:=op) (t:=t) (ox:=ox) (oy:=oy) (x:=a') (y:=b') (by simpa using hg) w,Result.andThen_ok]
   exact ze hx hy h (λ_=>rfl) (λ_=>rfl)
 ·obtain rfl:=hx.bool;obtain rfl:=hy.bool;simp only[Sem.run_bind,ig (P:=P) (op:=op) (t:=t) (ox:=ox) (oy:=oy) (x:=.bool _) (y:=.bool _) (by simp) (by simp) w,Result.andThen_ok]
  exact ze hx hy h (λ_=>rfl) (λ_=>rfl)
 ·obtain⟨a',rfl,_⟩:=hx.qB;obtain⟨b',rfl,_⟩:=hy.qB;simp only[Sem.run_bind,ig (P:=P) (op:=op) (t:=t) (ox:=ox) (oy:=oy) (x:=.pointer a') (y:=.pointer b') (by simp) (by simp) w,Result.andThen_ok]
  exact ze hx hy h (λ_=>rfl) (λ_=>rfl)
 ·obtain⟨_,a',c',rfl,_⟩:=hx.gC;obtain⟨_,b',d',rfl,_⟩:=hy.gC;simp only[Sem.run_bind,ig (P:=P) (op:=op) (t:=t) (ox:=ox) (oy:=oy) (x:=.slice a' _ c') (y:=.slice b' _ d') (by simp) (by simp) w,Result.andThen_ok]
  exact ze hx hy h (λ_=>rfl) (λ_=>rfl)
 ·obtain rfl:=hx.nilFunc;obtain rfl:=hy.nilFunc;simp only[Sem.run_bind,ig (P:=P) (op:=op) (t:=t) (ox:=ox) (oy:=oy) (x:=.nilFunc) (y:=.nilFunc) (by simp) (by simp) w,Result.andThen_ok]
  exact ze hx hy h (λ_=>rfl) (λ_=>rfl)
 ·obtain rfl:=hx.nilFunc;obtain⟨fn',f',c',rfl⟩:=hy.tX;simp only[Sem.run_bind,ig (P:=P) (op:=op) (t:=t) (ox:=ox) (oy:=oy) (x:=.nilFunc) (y:=.func _ f' c') (by simp) (by simp) w,Result.andThen_ok]
  exact ze hx hy h (λ_=>rfl) (λ_=>rfl)
 ·obtain rfl:=hy.nilFunc;obtain⟨fn',f',c',rfl⟩:=hx.tX;simp only[Sem.run_bind,ig (P:=P) (op:=op) (t:=t) (ox:=ox) (oy:=oy) (x:=.func _ f' c') (y:=.nilFunc) (by simp) (by simp) w,Result.andThen_ok]
  exact ze hx hy h (λ_=>rfl) (λ_=>rfl)
 ·cases h
theorem Nl {op:UnOp}{x x' v:Value}(hx:VR μ x x')(h:hO op x=some v)(w:World):(Op.unary op x').run P w= .ok v w∧cF v=true:=by
 unfold hO at h;split at h
 ·obtain rfl:=hx.int;cases h;exact⟨by simp[Op.unary,Op.intArith],rfl⟩
 ·obtain rfl:=hx.bool;cases h;exact⟨by simp[Op.unary],rfl⟩
 ·cases h
variable {P:Program} {μ:Mu} {H H':ae} {w:World} {B:Nat}
theorem kQ {v v':Value}{n:Int}(hv:VR μ v v')(h:iV v=some n): ∃k,v'= .int k n:=by
 unfold iV at h;split at h
 ·rename_i k m;cases h;exact⟨k,hv.int⟩
 ·cases h
theorem jl {k:IntKind}{n:Int}{y:Nat}{c:BoundsCode}(h0:0≤n)(h:n≤y)(w:World):(Instr.sliceBound (.int k n) y c).run P w= .ok n.toNat w:=by
 simp[Instr.sliceBound,asIntOf,h0,h]
def P8 (μ:Mu)(x x':Option Value):Prop:=(x=none∧x'=none)∨∃a a',x=some a∧x'=some a'∧VR μ a a'
theorem zf {len cap dY:Nat}{lo hi Ul wZ:Option Value}{h l:Int}(uj:P8 μ lo Ul)(Cw:P8 μ hi wZ)(hh:cK len hi=some h)(hl:cK 0 lo=some l)(hb:0≤h∧h≤cap∧0≤l∧l≤h)(hc:cap≤dY)(w:World):(Instr.sliceBounds true len dY Ul wZ none).run P w= .ok (l.toNat,h.toNat,dY) w:=by
 rcases Cw with⟨rfl,rfl⟩|⟨a,a',rfl,rfl,r⟩<;>rcases uj with⟨rfl,rfl⟩|⟨b,b',rfl,rfl,r2⟩
 ·simp only[cK] at hh hl;cases hh;cases hl;simp[Instr.sliceBounds]
 ·simp only[cK] at hh hl;cases hh;obtain⟨k,rfl⟩:=kQ r2 hl;have:=jl (P:=P) (k:=k) (y:=len) (c:=.sliceB) hb.2.2.1 hb.2.2.2 w
  simp[Instr.sliceBounds,this]
 ·simp only[cK] at hh hl;cases hl;obtain⟨k,rfl⟩:=kQ r hh;have:=jl (P:=P) (k:=k) (y:=dY) (c:=.sliceAcap) hb.1 (by omega) w
  simp[Instr.sliceBounds,this]
 ·obtain⟨k,rfl⟩:=kQ r hh;obtain⟨k2,rfl⟩:=kQ r2 hl;have h1:=jl (P:=P) (k:=k) (y:=dY) (c:=.sliceAcap) hb.1 (by omega) w
  have h2:=jl (P:=P) (k:=k2) (n:=l) (y:=h.toNat) (c:=.sliceB) hb.2.2.1 (by omega) w
  simp[Instr.sliceBounds,h1,h2]
theorem uk {t:TypeId}{x x' v:Value}{lo hi Ul wZ:Option Value}(hS:da P μ H w B)(hx:VR μ x x')(uj:P8 μ lo Ul)(Cw:P8 μ hi wZ)(h:qx P H t x lo hi=some v):
  ∃v',(Instr.sliceAt t x' Ul wZ none).run P w= .ok v' w∧VR μ v v':=by
 unfold qx at h;split at h
 ·rename_i elem a len cap hu;cases hz:iU P elem with
  |none=>rw[hz] at h;cases h
  |some size=>
   rw[hz] at h;simp only at h;obtain⟨Nm,a',dY,rfl,I8,YY⟩:=hx.gC;split at h
   ·rename_i h' l hh hl;split at h
    ·rename_i hb;have eK:(Instr.sliceAt t (.slice a' len dY) Ul wZ none).run P w= .ok (.slice (if dY=l.toNat then a' else a'.map (·.add (l.toNat*size))) (h'.toNat-l.toNat) (dY-l.toNat)) w:=by
      simp[Instr.sliceAt,Instr.slice,run_underlying hu,zf uj Cw hh hl hb YY,eZ hz]
     refine⟨_,eK,?_⟩;obtain⟨h0,hc,l0,lh⟩:=hb;cases a with
     |none=>
      obtain⟨rfl,rfl,e2⟩:=hx.ji;cases e2;cases h;have e1:h'=0:=by omega
      have e3:l=0:=by omega
      subst e1;subst e3;simp;exact .plain _ rfl
     |some ad=>
      rcases hx.dO with⟨i,off,c2,lc,rfl,GG,g1,g2,g3,e2⟩|⟨i,off,a2,rfl,rfl,rfl,e2⟩
      ·cases e2;simp only at h;have IT:(if cap=0 then some (Value.slice (some ⟨i,off,none⟩) 0 0) else none)=some v→VR μ v (.slice (if dY=l.toNat then some ⟨lc.b,lc.o+off,none⟩ else(some ⟨lc.b,lc.o+off,none⟩:Option Addr).map (·.add (l.toNat*size))) (h'.toNat-l.toNat) (dY-l.toNat)):=by
        intro h;split at h
        case isFalse=>cases h
        rename_i YZ;cases h;have e1:h'=0:=by omega
        have e3:l=0:=by omega
        subst e1;subst e3;by_cases Nn:dY=0
        ·subst Nn;simp;exact .nJ _ _ _
        ·simp[Nn,iY];exact .slice i off 0 0 dY lc GG (by omega) (by omega) g3
       cases hb:H.get i with
       |none=>rw[hb] at h;exact IT h
       |some b=>
        rw[hb] at h;simp only at h;split at h
        case isFalse=>exact IT h
        ·rename_i Ck;cases h;obtain⟨m,hm,k⟩:=hS.ok i b hb;rw[GG] at hm;cases hm;have Y0:lc.es=size:=k.es.trans Ck;by_cases um:dY=l.toNat
         ·rw[if_pos um];have e1:h'.toNat-l.toNat=0:=by omega
          have e2:cap-l.toNat=0:=by omega
          have e3:dY-l.toNat=0:=by omega
          rw[e1,e2,e3];exact .nJ _ _ _
         ·rw[if_neg um];simp only[Option.map_some,iY,Nat.add_assoc];refine .slice i (off+l.toNat*size) (h'.toNat-l.toNat) (cap-l.toNat) (dY-l.toNat) lc GG (by omega) (by omega) ?_
          rw[Y0] at g3 ⊢;have:dY*size=l.toNat*size+(dY-l.toNat)*size:=by rw[←Nat.add_mul];congr 1;omega
          omega
      ·cases e2;have e1:h'=0:=by omega
       have e3:l=0:=by omega
       subst e1;subst e3;have hv:v= .slice (some ⟨i,off,none⟩) 0 0:=by
        simp only at h;cases hb:H.get i with
        |none=>rw[hb] at h;simpa using h.symm
        |some b=>
         rw[hb] at h;simp only at h;split at h<;>simpa using h.symm
       subst hv;simp;exact .nJ _ _ _
    ·cases h
   ·cases h
 ·cases h
theorem Dv (z:List Value): ∀(n i:Nat),i<n*z.length→(ct z n)[i]? =z[i%z.length]?
 |0,i,h=>by simp at h
 |n+1,i,h=>by
  have e:ct z (n+1)=z++ct z n:=by simp[ct,List.replicate_succ]
  rw[e,List.getElem?_append];split
  ·rename_i dH;rw[Nat.mod_eq_of_lt dH]
  ·rename_i hge;have hl:(n+1)*z.length=n*z.length+z.length:=Nat.succ_mul _ _;rw[Dv z n (i-z.length) (by omega)]
   have:i%z.length=(i-z.length)%z.length:=by rw[Nat.mod_eq_sub_mod (by omega)]
   rw[this]
theorem fL (z:List Value)(n:Nat):(ct z n).length=n*z.length:=by
 induction n with
 |zero=>simp[ct]
 |succ n ih=>
  have e:ct z (n+1)=z++ct z n:=by simp[ct,List.replicate_succ]
  rw[e,List.length_append,ih,Nat.succ_mul];omega
theorem og (z:Array Value)(n:Nat)(hz:z.size≠0):((Array.range (n*z.size)).map (λi=>z[i%z.size]!)).toList=ct z.toList n:=by
 apply List.ext_getElem?;intro i;by_cases h:i<n*z.size
 ·rw[Dv _ _ _ (by simpa using h)]
  have hm:i%z.size<z.size:=Nat.mod_lt _ (by omega)
  simp[h,hm]
 ·rw[List.getElem?_eq_none (by simp;omega),List.getElem?_eq_none (by rw[fL];simp;omega)]
theorem nM (z:Array Value)(n:Nat)(hz:z.size≠0):(Builtin.zeroCells z n).toList=ct z.toList n:=og z n hz
theorem lE {z:Value}(h:gZ z=true):dR μ z.cells.toList z.cells.toList:=by
 have hv:VR μ z z:=.closed h;refine dR.cells hv ?_;cases z<;>simp[gZ,cF] at h<;>rfl
theorem my {z:Value}(h:gZ z=true)(n:Nat):dR μ (ct z.cells.toList n) (ct z.cells.toList n):=by
 induction n with
 |zero=>exact .nil
 |succ n ih=>
  have e: ∀l:List Value,ct l (n+1)=l++ct l n:=by intro l;simp[ct,List.replicate_succ]
  rw[e];exact(lE h).append ih
theorem Dw {v:Value}(h:cF v=true):aD v=true:=by cases v<;>first|rfl| (simp[cF] at h)
theorem sX {z:Value}(h:gZ z=true):z.cells.toList.all aD=true:=by
 cases z with
 |agg cs=>
  simp only[gZ,List.all_eq_true] at h;simp only[Value.cells,List.all_eq_true];exact λx hx=>Dw (h x hx)
 |_=>simp only[Value.cells];simp;exact Dw h
theorem oj {z:Value}(h:gZ z=true)(n:Nat):(ct z.cells.toList n).all aD=true:=by
 induction n with
 |zero=>rfl
 |succ n ih=>
  have e: ∀l:List Value,ct l (n+1)=l++ct l n:=by intro l;simp[ct,List.replicate_succ]
  rw[e,List.all_append,sX h,ih];rfl
def Told (P:Program)(μ:Mu)(v:Value)(H':ae)(w:World)(B:Nat)(r:Result Value):Prop:=
 ∃v' μ' w',r= .ok v' w'∧μ.le μ'∧VR μ' v v'∧da P μ' H' w' B∧gE B w w'
theorem Told.same {v v':Value}(hS:da P μ H w B)(hv:VR μ v v'):Told P μ v H w B (.ok v' w):=⟨v',μ,w,rfl,μ.le_refl,hv,hS,gE.refl _ _⟩
theorem uo {t t':TypeId}{cs:List Value}{dg:Array Value}(hS:da P μ H w B)(Qo:cs.all aD=true)(h:dR μ cs dg.toList):
  Told P μ (aO H t 1 cs).1 (aO H t 1 cs).2 w B ((do pure (.pointer (some (←newRow t' dg))):Sem Value).run P w):=by
 obtain⟨h1,h2⟩:=hS.alloc cs t' t 1 dg dg.size rfl Qo (by have:=h.1;simp at this;omega) (by rw[h.1,List.take_length];exact h) (λk v hk hv=>by have:=h.1;have:=(Array.getElem?_eq_some_iff.1 hv).1;simp at *;omega)
 refine⟨.pointer (some ⟨w.heap.size,0,none⟩),_,w.alloc (.cells dg t'),rfl,h1,?_,h2,(gE.refl _ _).alloc hS.base _⟩;have:=VR.ptr (μ:=μ.up H.length ⟨w.heap.size,0,dg.size,1⟩) H.length 0 _ Mu.aQ
 simpa[aO] using this
theorem vU {t:TypeId}{l c l' c' v:Value}(hS:da P μ H w B)(hl:VR μ l l')(hc:VR μ c c')(h:il P t l c H=some (v,H')):
  Told P μ v H' w B ((Instr.makeSlice t l' c').run P w):=by
 unfold il at h;split at h
 ·rename_i elem k a k' b hu;obtain rfl:=hl.int;obtain rfl:=hc.int;split at h
  ·rename_i size bytes z hz hb hzv;split at h
   ·rename_i jS;obtain⟨h0,hab,adD,zg,Lq⟩:=jS;cases h;obtain⟨i,hi,X0⟩:=oX hb;obtain⟨_,qm,n,hn,yq⟩:=eG hzv w;rw[hz] at hn;cases hn;have w1:IntKind.i64.wrap a=a:=by rw[IntKind.wrap_i64];omega
    have w2:IntKind.i64.wrap b=b:=by rw[IntKind.wrap_i64];omega
    have oY:(0:Nat)<size:=by omega
    have eC:b.toNat*size=0↔b.toNat=0:=by simp[Nat.mul_eq_zero];omega
    have hmul:(i.bytes:Int)*b≤17592186044416:=by
     have h1:(i.bytes:Int)≤4096:=by omega
     have h2:0≤b:=by omega
     calc (i.bytes:Int)*b≤4096*b:=Int.mul_le_mul_of_nonneg_right h1 h2
      _≤17592186044416:=by omega
    have lD: ∃dg:Array Value,dg.toList=ct z.cells.toList b.toNat∧(Instr.makeSlice t (.int k a) (.int k' b)).run P w= .ok (.slice (some ⟨w.heap.size,0,none⟩) a.toNat b.toNat) (w.alloc (.cells dg elem)):=by
     have Y1: ¬(b<0∨(281474976710656:Int)<(i.bytes:Int)*b):=by omega
     by_cases X1:b.toNat=0
     ·refine⟨(Array.range 0).map (λ_=>default),by simp[X1,ct],?_⟩
      have:b=0:=by omega
      subst this;have:a=0:=by omega
      subst this;simp[Instr.makeSlice,run_underlying hu,asInt,asIntOf,mE hi,IntKind.wrap_i64,eZ hz,newRow]
     ·refine⟨(Array.range (b.toNat*size)).map (λi=>z.cells[i%z.cells.size]!),by rw[←og _ _ (by omega),yq],?_⟩
      have zh: ¬(a<0∨b<a):=by omega
      simp[Instr.makeSlice,run_underlying hu,asInt,asIntOf,mE hi,w1,w2,eZ hz,newRow,(eG hzv _).1];rw[if_neg (by rintro(((h|h)|h)|h)<;>omega),if_neg (λe=>X1 (eC.1 e))]
    obtain⟨dg,e,eK⟩:=lD;rw[eK];have hlen:dg.size=b.toNat*size:=by
     have:=congrArg List.length e
     rw[fL] at this;simp at this;rw[this,yq]
    obtain⟨h1,h2⟩:=hS.alloc (ct z.cells.toList b.toNat) elem elem size dg dg.size rfl (oj qm _) (by rw[←e];simp) (by rw[←e,List.take_length,e];exact my qm _) (λk v hk hv=>by have:=(Array.getElem?_eq_some_iff.1 hv).1;rw[←e] at hk;simp at hk;omega)
    refine⟨_,_,_,rfl,h1,?_,h2,(gE.refl _ _).alloc hS.base _⟩;have:=VR.slice (μ:=μ.up H.length ⟨w.heap.size,0,dg.size,size⟩) H.length 0 a.toNat b.toNat b.toNat _ Mu.aQ (by omega) (Nat.le_refl _) (by simp[hlen])
    simpa using this
   ·cases h
  ·cases h
 ·cases h
theorem Qt {c c':List Value}(hc:dR μ c c')(off:Nat): ∀(k:Nat) {cs dg:Array Value},dR μ cs.toList dg.toList→
  dR μ ((c.zipIdx k).foldl (λcs (x:Value×Nat)=>cs.setIfInBounds (off+x.2) x.1) cs).toList ((c'.zipIdx k).foldl (λcs (x:Value×Nat)=>cs.setIfInBounds (off+x.2) x.1) dg).toList:=by
 induction c generalizing c' with
 |nil=>intro k cs dg h;rw[hc.jh];exact h
 |cons a r ih=>
  intro k cs dg h;obtain⟨b,y,rfl,h1,h2⟩:=hc.gL;simp only[List.zipIdx_cons,List.foldl_cons];refine ih h2 (k+1) ?_;simp only[Array.toList_setIfInBounds];exact h.set h1 _
theorem oZ (place:Nat→Option (Nat×Nat)): ∀{ps Cm:List (Nat×Value)} {cs dg:Array Value} {r:Array Value},dR μ cs.toList dg.toList→
  ps.map (·.1)=Cm.map (·.1)→dR μ (ps.map (·.2)) (Cm.map (·.2))→ps.all (λp=>known p.2)=true→Instr.fill place cs ps=some r→
  ∃r',Instr.fill place dg Cm=some r'∧dR μ r.toList r'.toList:=by
 intro ps;induction ps with
 |nil=>
  intro Cm cs dg r hc h1 h2 hk h;cases Cm with
  |nil=>simp only[Instr.fill] at h ⊢;cases h;exact⟨_,rfl,hc⟩
  |cons=>simp at h1
 |cons p ps ih=>
  intro Cm cs dg r hc h1 h2 hk h;cases Cm with
  |nil=>simp at h1
  |cons p' Cm=>
   obtain⟨i,v⟩:=p;obtain⟨i',v'⟩:=p';simp only[List.map_cons,List.cons.injEq] at h1 h2;obtain⟨rfl,h1⟩:=h1;obtain⟨b,y,e,r1,r2⟩:=h2.gL;cases e;simp only[List.all_cons,Bool.and_eq_true] at hk;have lQ:=dR.cells r1 hk.1;have P9:v.cells.size=v'.cells.size:=by simpa using lQ.1
   have vV:cs.size=dg.size:=by simpa using hc.1
   simp only[Instr.fill] at h ⊢;cases hp:place i with
   |none=>rw[hp] at h;cases h
   |some q=>
    obtain⟨off,size⟩:=q;rw[hp] at h;simp only at h ⊢;rw[←P9, ←vV];split at h
    ·cases h
    ·rename_i jS;rw[if_neg jS];refine ih ?_ h1 r2 hk.2 h;have:=Qt lQ off 0 hc
     rw[←Array.foldl_toList, ←Array.foldl_toList,Array.toList_zipIdx,Array.toList_zipIdx];exact this
theorem Dx (place:Nat→Option (Nat×Nat)): ∀{ps:List (Nat×Value)} {cs r:Array Value},Instr.fill place cs ps=some r→r.size=cs.size:=by
 intro ps;induction ps with
 |nil=>intro cs r h;simp only[Instr.fill] at h;cases h;rfl
 |cons p ps ih=>
  intro cs r h;obtain⟨i,v⟩:=p;simp only[Instr.fill] at h;cases hp:place i with
  |none=>rw[hp] at h;cases h
  |some q=>
   obtain⟨off,size⟩:=q;rw[hp] at h;simp only at h;split at h
   ·cases h
   ·rename_i hc;rw[ih h, ←Array.foldl_toList];generalize v.cells.zipIdx.toList=l
    clear h ih hc;induction l generalizing cs with
    |nil=>rfl
    |cons a l Uk=>rw[List.foldl_cons,Uk];simp
theorem G2 (place:Nat→Option (Nat×Nat)): ∀{ps:List (Nat×Value)} {cs r:Array Value},cs.toList.all aD=true→ps.all (λp=>p.2.cells.toList.all aD)=true→Instr.fill place cs ps=some r→r.toList.all aD=true:=by
 intro ps;induction ps with
 |nil=>intro cs r hc _ h;simp only[Instr.fill] at h;cases h;exact hc
 |cons p ps ih=>
  intro cs r hc hk h;obtain⟨i,v⟩:=p;simp only[List.all_cons,Bool.and_eq_true] at hk;simp only[Instr.fill] at h;cases hp:place i with
  |none=>rw[hp] at h;cases h
  |some q=>
   obtain⟨off,size⟩:=q;rw[hp] at h;simp only at h;split at h
   ·cases h
   ·refine ih ?_ hk.2 h;rw[←Array.foldl_toList,Array.toList_zipIdx];have key: ∀(l:List Value) (k:Nat) (cs:Array Value),l.all aD=true→cs.toList.all aD=true→
      ((l.zipIdx k).foldl (λcs (x:Value×Nat)=>cs.setIfInBounds (off+x.2) x.1) cs).toList.all aD=true:=by
     intro l;induction l with
     |nil=>intro k cs _ h;exact h
     |cons a l Uk=>
      intro k cs ha lQ;simp only[List.all_cons,Bool.and_eq_true] at ha;simp only[List.zipIdx_cons,List.foldl_cons];refine Uk _ _ ha.2 ?_;rw[List.all_eq_true] at lQ ⊢;intro x hx;simp only[Array.toList_setIfInBounds] at hx;rcases List.mem_or_eq_of_mem_set hx with hx|rfl
      ·exact lQ x hx
      ·exact ha.1
    exact key _ 0 _ hk.1 hc
theorem I9 {fields:Array Field}{pl:Array (Nat×Nat)}(h:placesOf P fields=some pl)(w:World):
  (fields.mapM λ(f:Field)=>do pure (f.offset, ←sizeOf f.type):Sem (Array (Nat×Nat))).run P w= .ok pl w:=by
 unfold placesOf at h;rw[Option.map_eq_some_iff] at h;obtain⟨l,hl,rfl⟩:=h;rw[Array.mapM_eq_mapM_toList];have: ∀(fs:List Field) (l:List (Nat×Nat)),(fs.mapM λf=>(iU P f.type).map λn=>(f.offset,n))=some l→
   (fs.mapM λ(f:Field)=>do pure (f.offset, ←sizeOf f.type):Sem (List (Nat×Nat))).run P w= .ok l w:=by
  intro fs;induction fs with
  |nil=>intro l h;simp at h;subst h;rfl
  |cons f r ih=>
   intro l h;rw[List.mapM_cons] at h;simp only[Option.bind_eq_bind,Option.bind_eq_some_iff,Option.map_eq_some_iff] at h;obtain⟨q,⟨n,hn,rfl⟩,l2,GG,e⟩:=h;cases e;rw[List.mapM_cons];simp only[Sem.run_bind,eZ hn,Result.andThen_ok,Sem.run_pure,ih l2 GG]
 simp only[Sem.run_map,this _ _ hl,Result.andThen_ok]
theorem Em {t:TypeId}{ps Cm:List (Nat×Value)}{v:Value}(h1:ps.map (·.1)=Cm.map (·.1))(h2:dR μ (ps.map (·.2)) (Cm.map (·.2)))(h:aI P t ps=some v)(w:World):
  ∃v',(Instr.build t Cm.toArray).run P w= .ok v' w∧VR μ v v':=by
 unfold aI at h;split at h
 ·cases h
 ·rename_i hk;have hk:ps.all (λp=>known p.2)=true:=by simpa using hk
  split at h
  ·rename_i z fields hz hu;cases hp:placesOf P fields with
   |none=>rw[hp] at h;cases h
   |some pl=>
    rw[hp] at h;simp only[Option.map_eq_some_iff] at h;obtain⟨r,hr,rfl⟩:=h;obtain⟨IU,qm,_⟩:=eG hz w;obtain⟨r',Um,hv⟩:=oZ _ (lE qm) h1 h2 hk hr;refine⟨.agg r',?_,hv.agg⟩;have En:=I9 hp w;simp only[Instr.build,Sem.run_bind,IU,Result.andThen_ok,run_underlying hu,En];simp[Um]
  ·rename_i z n elem hz hu;cases hs:iU P elem with
   |none=>rw[hs] at h;cases h
   |some size=>
    rw[hs] at h;simp only[Option.map_eq_some_iff] at h;obtain⟨r,hr,rfl⟩:=h;obtain⟨IU,qm,_⟩:=eG hz w;obtain⟨r',Um,hv⟩:=oZ _ (lE qm) h1 h2 hk hr;refine⟨.agg r',?_,hv.agg⟩;simp only[Instr.build,Sem.run_bind,IU,Result.andThen_ok,run_underlying hu,eZ hs];simp[Um]
  ·cases h
theorem uq {t:TypeId}{n:Nat}{ps Cm:List (Nat×Value)}{v:Value}(hS:da P μ H w B)(h1:ps.map (·.1)=Cm.map (·.1))(h2:dR μ (ps.map (·.2)) (Cm.map (·.2)))(h:aw P t n ps H=some (v,H')):Told P μ v H' w B ((Instr.buildSlice t n Cm.toArray).run P w):=by
 unfold aw at h;split at h
 ·cases h
 ·rename_i hk;have Ls:ps.all (λp=>p.2.cells.toList.all aD)=true:=by simpa using hk
  have hk:ps.all (λp=>known p.2)=true:=by
   rw[List.all_eq_true] at Ls ⊢;intro p hp;have:=Ls p hp
   revert this
   cases p.2<;>simp[Value.cells,aD,known]
  split at h
  ·rename_i elem hu;split at h
   ·rename_i size z hs hz;split at h
    ·rename_i hc;simp only[Bool.and_eq_true,decide_eq_true_eq,ne_eq] at hc;obtain⟨zi,oY⟩:=hc;obtain⟨IU,qm,m,hm,yq⟩:=eG hz w;rw[hs] at hm;cases hm;cases hf:Instr.fill (λi=>some (i*size,size)) (ct z.cells.toList n).toArray ps with
     |none=>rw[hf] at h;cases h
     |some cs=>
      rw[hf] at h;cases h;obtain⟨dg,G3,hv⟩:=oZ (dg:=(ct z.cells.toList n).toArray) _ (by simpa using my qm n) h1 h2 hk hf
      have hlen:dg.size=n*size:=by
       rw[Dx _ G3];simp[fL,yq]
      have eK:(Instr.buildSlice t n Cm.toArray).run P w= .ok (.slice (some ⟨w.heap.size,0,none⟩) n n) (w.alloc (.cells dg elem)):=by
       have af9:(0:Nat)<size:=Nat.pos_of_ne_zero (by simpa using oY)
       have No: ¬(n*size>2^24):=by simpa using zi
       by_cases h0:n=0
       ·subst h0;have e:(ct z.cells.toList 0).toArray=(Array.range (0*size)).map (λi=>(#[]:Array Value)[i%(#[]:Array Value).size]!):=by simp[ct]
        rw[e] at G3;simp only[Instr.buildSlice,Sem.run_bind,run_underlying hu,eZ hs,Result.andThen_ok,Sem.run_ite,Sem.run_pure,Nat.zero_mul,if_true];simp only[Nat.zero_mul] at G3;simp only[G3];rfl
       ·have eC: ¬n*size=0:=by simp[Nat.mul_eq_zero];omega
        have e:(ct z.cells.toList n).toArray=(Array.range (n*size)).map (λi=>z.cells[i%z.cells.size]!):=by
         rw[←og _ _ (by omega),yq]
        rw[e] at G3;simp only[Instr.buildSlice,Sem.run_bind,run_underlying hu,eZ hs,Result.andThen_ok,Sem.run_ite,No,if_false,Sem.run_pure,eC,IU,G3];rfl
      rw[eK];obtain⟨g1,g2⟩:=hS.alloc cs.toList elem elem size dg dg.size rfl (G2 _ (by simpa using oj qm n) Ls hf) (by have:=hv.1;simp at this ⊢;omega) (by rw[hv.1,List.take_length];exact hv) (λk v hk xF=>by have:=hv.1;have:=(Array.getElem?_eq_some_iff.1 xF).1;simp at *;omega)
      refine⟨_,_,_,rfl,g1,?_,g2,(gE.refl _ _).alloc hS.base _⟩;have:=VR.slice (μ:=μ.up H.length ⟨w.heap.size,0,dg.size,size⟩) H.length 0 n n n _ Mu.aQ (Nat.le_refl _) (Nat.le_refl _) (by simp[hlen])
      simpa using this
    ·cases h
   ·cases h
  ·cases h
end Go.Proofs.YtjgmnoaalbbonaaGreatA.Am
end
