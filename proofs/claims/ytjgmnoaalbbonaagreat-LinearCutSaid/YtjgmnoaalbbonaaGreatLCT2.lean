/- Texts of the proof of linearCut_holds, put together by a small program of ours (names shortened, spaces taken out). No condition beyond the given statement. -/
import Derived.Test.YtjgmnoaalbbonaaGreatLCT1
set_option linter.unusedVariables false
set_option linter.unusedSimpArgs false
set_option linter.unnecessarySimpa false
noncomputable section
section
namespace Go.Proofs.YtjgmnoaalbbonaaGreatA.Am
open Go.RowKit (Below)
variable {P:Program} {μ:Mu} {H H':aa} {w:World} {B:Nat}
theorem sg: ∀(d:Nat) {t:TypeId} {x y x' y':Value} {b:Bool},VR μ x x'→VR μ y y'→iQ P d t x y=some b→∀w,(Op.equalIn d t x' y').run P w= .ok b w:=by
 intro d;induction d with
 |zero=>intro t x y x' y' b hx hy h;simp[iQ] at h
 |succ d ih=>
  intro t x y x' y' b hx hy h w;unfold iQ at h;split at h
  ·rename_i a c hu;rw[hx.bool,hy.bool];cases h;simp[Op.equalIn,run_underlying hu]
  ·rename_i k a k' c hu;rw[hx.int,hy.int];split at h
   ·rename_i e;cases h;simp[Op.equalIn,run_underlying hu,e]
   ·cases h
  ·rename_i a c hu;rw[hx.string,hy.string];cases h;simp[Op.equalIn,run_underlying hu]
  ·rename_i c hu;obtain⟨c',rfl,hn⟩:=hy.pd;rw[hx.Zw];cases h;simp[Op.equalIn,run_underlying hu,hn]
  ·rename_i a hu;obtain⟨i,off,l,rfl,hl,rfl⟩:=hx.nu;rw[hy.Zw];cases h;simp[Op.equalIn,run_underlying hu]
  ·rename_i n c a n' c' hu;obtain⟨rfl,rfl,rfl⟩:=hx.iC;obtain⟨_,a',c2,rfl,hn,_⟩:=hy.fG;cases h;simp[Op.equalIn,run_underlying hu,hn]
  ·rename_i a n c n' c' hu;obtain⟨rfl,rfl,rfl⟩:=hy.iC;obtain⟨_,a',c2,rfl,hn,_⟩:=hx.fG;cases h;cases a' with
   |none=>simp at hn
   |some a'=>simp[Op.equalIn,run_underlying hu]
  ·rename_i hu;rw[hx.nilFunc,hy.nilFunc];cases h;simp[Op.equalIn,run_underlying hu]
  ·rename_i hu;obtain⟨Zx,f',c',rfl⟩:=hy.rU;rw[hx.nilFunc];cases h;simp[Op.equalIn,run_underlying hu]
  ·rename_i hu;obtain⟨Zx,f',c',rfl⟩:=hx.rU;rw[hy.nilFunc];cases h;simp[Op.equalIn,run_underlying hu]
  ·rename_i fields xs ys hu;obtain⟨xs',rfl,Zz⟩:=hx.pY;obtain⟨ys',rfl,Y4⟩:=hy.pY;split at h
   ·cases h
   ·rename_i hs;have Y5:P.stoodInHeld t=false:=by simpa using hs
    have key: ∀(l:List Field),eqFields P (iQ P d) xs ys l=some b→(forIn (m:=Sem) l ((none:Option Bool),()) λf __s=>
      if f.name= "_" then pure (ForInStep.yield (none,()))
      else do
       let u ←part f.type xs' f.offset
       let v ←part f.type ys' f.offset
       let e ←Op.equalIn d f.type u v
       if e=false then pure (ForInStep.done (some false,())) else pure (ForInStep.yield (none,()))).run P w= .ok (if b then(none,()) else(some false,())) w:=by
     intro l;induction l with
     |nil=>intro hb;simp only[eqFields] at hb;cases hb;rfl
     |cons f r P5=>
      intro hb;simp only[eqFields] at hb;rw[List.forIn_cons];by_cases hn:f.name= "_"
      ·rw[if_pos hn] at hb;simp only[hn,if_true,Sem.run_bind,Sem.run_pure,Result.andThen_ok];exact P5 hb
      ·rw[if_neg hn] at hb;cases MG:apart P f.type xs f.offset with
       |none=>simp only[MG] at hb;cases hb
       |some u=>
        cases MH:apart P f.type ys f.offset with
        |none=>simp only[MG,MH] at hb;cases hb
        |some v=>
         simp only[MG,MH] at hb;obtain⟨u',ru,vu⟩:=lT Zz MG w;obtain⟨v',rv,vv⟩:=lT Y4 MH w;cases he:iQ P d f.type u v with
         |none=>rw[he] at hb;cases hb
         |some e=>
          have hr:=ih vu vv he w;rw[he] at hb;cases e with
          |false=>
           cases hb;simp[hn,ru,rv,hr]
          |true=>
           simp only[hn,if_false,Sem.run_bind,ru,rv,hr,Result.andThen_ok,Bool.true_eq_false,Sem.run_pure];exact P5 hb
    have k:=key fields.toList h;simp[Op.equalIn,run_underlying hu,Y5];rw[←Array.forIn_toList,k];cases b<;>simp
  ·cases h
theorem BO {op:BinOp}{k:IntKind}{a b:Int}{v:Value}(hs:op≠ .shl∧op≠ .shr)(h:jv op k a b=some v)(t:TypeId)(w:World):
  (binOp op t (.int k a) (.int k b)).run P w= .ok v w∧bY v=true:=by
 cases op<;>simp only[jv] at h<;>first
  | (exact absurd rfl hs.1)| (exact absurd rfl hs.2)
  | (cases h;exact⟨by simp[binOp,Op.intArith,Op.intCmp,Op.intBits,bits],rfl⟩)
  | (
   split at h
   ·cases h
   ·rename_i hb;cases h;exact⟨by simp[binOp,Op.intDiv,hb],rfl⟩)
theorem si {op:BinOp}{k k':IntKind}{a b:Int}{v:Value}(hs:op= .shl∨op= .shr)(h:re op k a b=some v)(t:TypeId)(w:World):
  (binOp op t (.int k a) (.int k' b)).run P w= .ok v w∧bY v=true:=by
 unfold re at h;split at h
 ·cases h
 ·rename_i hb;rcases hs with rfl|rfl<;>(simp only at h;cases h;exact⟨by simp[binOp,Op.shift,hb],rfl⟩)
theorem FL {op:BinOp}{a b:ByteArray}{v:Value}(h:Ul op a b=some v)(t:TypeId)(w:World):
  (binOp op t (.string a) (.string b)).run P w= .ok v w∧bY v=true:=by
 cases op<;>simp only[Ul,rR] at h<;>first
  | (cases h;exact⟨by simp[binOp,Op.stringOp],rfl⟩)
  | (cases h)
theorem gH {op:BinOp}{t:TypeId}{ox oy:Operand}{x y:Value}(h1:x≠ .nilIface)(h2: ∀c,x≠ .agg c)(w:World):
  (eqGuard op t ox oy x y).run P w= .ok () w:=by
 by_cases Mn:op= .eql∨op= .neq
 ·rcases Mn with rfl|rfl<;>(cases x<;>first|rfl| (exact absurd rfl h1)| (exact absurd rfl (h2 _)))
 ·cases op<;>first|rfl| (exact absurd (.inl rfl) Mn)| (exact absurd (.inr rfl) Mn)
theorem I8 {op:BinOp}{t:TypeId}{ox oy:Operand}{x y:Array Value}(h:P.eqGuardType P.depth t=false)(w:World):
  (eqGuard op t ox oy (.agg x) (.agg y)).run P w= .ok () w:=by
 by_cases Mn:op= .eql∨op= .neq
 ·rcases Mn with rfl|rfl<;>simp[eqGuard,h]
 ·cases op<;>first|rfl| (exact absurd (.inl rfl) Mn)| (exact absurd (.inr rfl) Mn)
theorem wG {op:BinOp}{t:TypeId}{x y x' y' v:Value}(hx:VR μ x x')(hy:VR μ y y')(h:ai P op t x y=some v)(ox oy:Operand)(w:World):
  (do eqGuard op t ox oy x' y';binOp op t x' y').run P w= .ok v w∧bY v=true:=by
 have wH: ∀{op:BinOp} {x y:Value},VR μ x x'→VR μ y y'→
   (match op with| .eql=>(iQ P Op.maxDepth t x y).map Value.bool| .neq=>(iQ P Op.maxDepth t x y).map λb=>Value.bool (!b)|_=>none)=some v→
   (∀w,(binOp .eql t x' y').run P w=(do pure (Value.bool (←Op.equal t x' y')):Sem Value).run P w)→
   (∀w,(binOp .neq t x' y').run P w=(do pure (Value.bool (!(←Op.equal t x' y'))):Sem Value).run P w)→(binOp op t x' y').run P w= .ok v w∧bY v=true:=by
  intro op x y hx hy h e1 e2;split at h
  ·rw[Option.map_eq_some_iff] at h;obtain⟨b,hb,rfl⟩:=h;rw[e1];exact⟨by simp[Op.equal,sg _ hx hy hb w],rfl⟩
  ·rw[Option.map_eq_some_iff] at h;obtain⟨b,hb,rfl⟩:=h;rw[e2];exact⟨by simp[Op.equal,sg _ hx hy hb w],rfl⟩
  ·cases h
 unfold ai at h;split at h
 ·rename_i k a k' b;obtain rfl:=hx.int;obtain rfl:=hy.int;simp only[Sem.run_bind,gH (P:=P) (op:=op) (t:=t) (ox:=ox) (oy:=oy) (x:=.int k a) (y:=.int k' b) (by simp) (by simp) w,Result.andThen_ok]
  split at h
  ·exact si (.inl rfl) h t w
  ·exact si (.inr rfl) h t w
  ·rename_i n1 n2;split at h
   ·rename_i e;subst e;exact BO ⟨λe=>n1 e,λe=>n2 e⟩ h t w
   ·cases h
 ·rename_i a b;obtain rfl:=hx.string;obtain rfl:=hy.string;simp only[Sem.run_bind,gH (P:=P) (op:=op) (t:=t) (ox:=ox) (oy:=oy) (x:=.string a) (y:=.string b) (by simp) (by simp) w,Result.andThen_ok]
  exact FL h t w
 ·obtain⟨a',rfl,ha⟩:=hx.pY;obtain⟨b',rfl,hb⟩:=hy.pY;split at h
  ·cases h
  ·rename_i hg;simp only[Sem.run_bind,I8 (P:=P) (op:=op) (t:=t) (ox:=ox) (oy:=oy) (x:=a') (y:=b') (by simpa using hg) w,Result.andThen_ok]
   exact wH hx hy h (λ_=>rfl) (λ_=>rfl)
 ·obtain rfl:=hx.bool;obtain rfl:=hy.bool;simp only[Sem.run_bind,gH (P:=P) (op:=op) (t:=t) (ox:=ox) (oy:=oy) (x:=.bool _) (y:=.bool _) (by simp) (by simp) w,Result.andThen_ok]
  exact wH hx hy h (λ_=>rfl) (λ_=>rfl)
 ·obtain⟨a',rfl,_⟩:=hx.pd;obtain⟨b',rfl,_⟩:=hy.pd;simp only[Sem.run_bind,gH (P:=P) (op:=op) (t:=t) (ox:=ox) (oy:=oy) (x:=.pointer a') (y:=.pointer b') (by simp) (by simp) w,Result.andThen_ok]
  exact wH hx hy h (λ_=>rfl) (λ_=>rfl)
 ·obtain⟨_,a',c',rfl,_⟩:=hx.fG;obtain⟨_,b',d',rfl,_⟩:=hy.fG;simp only[Sem.run_bind,gH (P:=P) (op:=op) (t:=t) (ox:=ox) (oy:=oy) (x:=.slice a' _ c') (y:=.slice b' _ d') (by simp) (by simp) w,Result.andThen_ok]
  exact wH hx hy h (λ_=>rfl) (λ_=>rfl)
 ·obtain rfl:=hx.nilFunc;obtain rfl:=hy.nilFunc;simp only[Sem.run_bind,gH (P:=P) (op:=op) (t:=t) (ox:=ox) (oy:=oy) (x:=.nilFunc) (y:=.nilFunc) (by simp) (by simp) w,Result.andThen_ok]
  exact wH hx hy h (λ_=>rfl) (λ_=>rfl)
 ·obtain rfl:=hx.nilFunc;obtain⟨Zx,f',c',rfl⟩:=hy.rU;simp only[Sem.run_bind,gH (P:=P) (op:=op) (t:=t) (ox:=ox) (oy:=oy) (x:=.nilFunc) (y:=.func _ f' c') (by simp) (by simp) w,Result.andThen_ok]
  exact wH hx hy h (λ_=>rfl) (λ_=>rfl)
 ·obtain rfl:=hy.nilFunc;obtain⟨Zx,f',c',rfl⟩:=hx.rU;simp only[Sem.run_bind,gH (P:=P) (op:=op) (t:=t) (ox:=ox) (oy:=oy) (x:=.func _ f' c') (y:=.nilFunc) (by simp) (by simp) w,Result.andThen_ok]
  exact wH hx hy h (λ_=>rfl) (λ_=>rfl)
 ·cases h
theorem I9 {op:UnOp}{x x' v:Value}(hx:VR μ x x')(h:hZ op x=some v)(w:World):(Op.unary op x').run P w= .ok v w∧bY v=true:=by
 unfold hZ at h;split at h
 ·obtain rfl:=hx.int;cases h;exact⟨by simp[Op.unary,Op.intArith],rfl⟩
 ·obtain rfl:=hx.bool;cases h;exact⟨by simp[Op.unary],rfl⟩
 ·cases h
variable {P:Program} {μ:Mu} {H H':aa} {w:World} {B:Nat}
theorem jX {v v':Value}{n:Int}(hv:VR μ v v')(h:kZ v=some n): ∃k,v'= .int k n:=by
 unfold kZ at h;split at h
 ·rename_i k m;cases h;exact⟨k,hv.int⟩
 ·cases h
theorem iF {k:IntKind}{n:Int}{y:Nat}{c:BoundsCode}(h0:0≤n)(h:n≤y)(w:World):(Instr.sliceBound (.int k n) y c).run P w= .ok n.toNat w:=by
 simp[Instr.sliceBound,asIntOf,h0,h]
def Mo (μ:Mu)(x x':Option Value):Prop:=(x=none∧x'=none)∨∃a a',x=some a∧x'=some a'∧VR μ a a'
theorem wI {len cap dG:Nat}{lo hi P7 vK:Option Value}{h l:Int}(z4:Mo μ lo P7)(z5:Mo μ hi vK)(hh:cV len hi=some h)(hl:cV 0 lo=some l)(hb:0≤h∧h≤cap∧0≤l∧l≤h)(hc:cap≤dG)(w:World):(Instr.sliceBounds true len dG P7 vK none).run P w= .ok (l.toNat,h.toNat,dG) w:=by
 rcases z5 with⟨rfl,rfl⟩|⟨a,a',rfl,rfl,r⟩<;>rcases z4 with⟨rfl,rfl⟩|⟨b,b',rfl,rfl,r2⟩
 ·simp only[cV] at hh hl;cases hh;cases hl;simp[Instr.sliceBounds]
 ·simp only[cV] at hh hl;cases hh;obtain⟨k,rfl⟩:=jX r2 hl;have:=iF (P:=P) (k:=k) (y:=len) (c:=.sliceB) hb.2.2.1 hb.2.2.2 w
  simp[Instr.sliceBounds,this]
 ·simp only[cV] at hh hl;cases hl;obtain⟨k,rfl⟩:=jX r hh;have:=iF (P:=P) (k:=k) (y:=dG) (c:=.sliceAcap) hb.1 (by omega) w
  simp[Instr.sliceBounds,this]
 ·obtain⟨k,rfl⟩:=jX r hh;obtain⟨k2,rfl⟩:=jX r2 hl;have h1:=iF (P:=P) (k:=k) (y:=dG) (c:=.sliceAcap) hb.1 (by omega) w
  have h2:=iF (P:=P) (k:=k2) (n:=l) (y:=h.toNat) (c:=.sliceB) hb.2.2.1 (by omega) w
  simp[Instr.sliceBounds,h1,h2]
theorem sj {t:TypeId}{x x' v:Value}{lo hi P7 vK:Option Value}(hS:cQ P μ H w B)(hx:VR μ x x')(z4:Mo μ lo P7)(z5:Mo μ hi vK)(h:oY P H t x lo hi=some v):
  ∃v',(Instr.sliceAt t x' P7 vK none).run P w= .ok v' w∧VR μ v v':=by
 unfold oY at h;split at h
 ·rename_i elem a len cap hu;cases hz:il P elem with
  |none=>rw[hz] at h;cases h
  |some size=>
   rw[hz] at h;simp only at h;obtain⟨Ja,a',dG,rfl,FM,Um⟩:=hx.fG;split at h
   ·rename_i h' l hh hl;split at h
    ·rename_i hb;have dU:(Instr.sliceAt t (.slice a' len dG) P7 vK none).run P w= .ok (.slice (if dG=l.toNat then a' else a'.map (·.add (l.toNat*size))) (h'.toNat-l.toNat) (dG-l.toNat)) w:=by
      simp[Instr.sliceAt,Instr.slice,run_underlying hu,wI z4 z5 hh hl hb Um,eh hz]
     refine⟨_,dU,?_⟩;obtain⟨h0,hc,l0,lh⟩:=hb;cases a with
     |none=>
      obtain⟨rfl,rfl,e2⟩:=hx.iC;cases e2;cases h;have e1:h'=0:=by omega
      have e3:l=0:=by omega
      subst e1;subst e3;simp;exact .plain _ rfl
     |some ad=>
      rcases hx.dx with⟨i,off,c2,lc,rfl,DO,g1,g2,g3,e2⟩|⟨i,off,a2,rfl,rfl,rfl,e2⟩
      ·cases e2;simp only at h;have Mp:(if cap=0 then some (Value.slice (some ⟨i,off,none⟩) 0 0) else none)=some v→VR μ v (.slice (if dG=l.toNat then some ⟨lc.b,lc.o+off,none⟩ else(some ⟨lc.b,lc.o+off,none⟩:Option Addr).map (·.add (l.toNat*size))) (h'.toNat-l.toNat) (dG-l.toNat)):=by
        intro h;split at h
        case isFalse=>cases h
        rename_i hc0;cases h;have e1:h'=0:=by omega
        have e3:l=0:=by omega
        subst e1;subst e3;by_cases Jb:dG=0
        ·subst Jb;simp;exact .mj _ _ _
        ·simp[Jb,ir];exact .slice i off 0 0 dG lc DO (by omega) (by omega) g3
       cases hb:H.get i with
       |none=>rw[hb] at h;exact Mp h
       |some b=>
        rw[hb] at h;simp only at h;split at h
        case isFalse=>exact Mp h
        ·rename_i zT;cases h;obtain⟨m,hm,k⟩:=hS.ok i b hb;rw[DO] at hm;cases hm;have Uo:lc.es=size:=k.es.trans zT;by_cases tP:dG=l.toNat
         ·rw[if_pos tP];have e1:h'.toNat-l.toNat=0:=by omega
          have e2:cap-l.toNat=0:=by omega
          have e3:dG-l.toNat=0:=by omega
          rw[e1,e2,e3];exact .mj _ _ _
         ·rw[if_neg tP];simp only[Option.map_some,ir,Nat.add_assoc];refine .slice i (off+l.toNat*size) (h'.toNat-l.toNat) (cap-l.toNat) (dG-l.toNat) lc DO (by omega) (by omega) ?_
          rw[Uo] at g3 ⊢;have:dG*size=l.toNat*size+(dG-l.toNat)*size:=by rw[←Nat.add_mul];congr 1;omega
          omega
      ·cases e2;have e1:h'=0:=by omega
       have e3:l=0:=by omega
       subst e1;subst e3;have hv:v= .slice (some ⟨i,off,none⟩) 0 0:=by
        simp only at h;cases hb:H.get i with
        |none=>rw[hb] at h;simpa using h.symm
        |some b=>
         rw[hb] at h;simp only at h;split at h<;>simpa using h.symm
       subst hv;simp;exact .mj _ _ _
    ·cases h
   ·cases h
 ·cases h
theorem AY (z:List Value): ∀(n i:Nat),i<n*z.length→(bR z n)[i]? =z[i%z.length]?
 |0,i,h=>by simp at h
 |n+1,i,h=>by
  have e:bR z (n+1)=z++bR z n:=by simp[bR,List.replicate_succ]
  rw[e,List.getElem?_append];split
  ·rename_i eR;rw[Nat.mod_eq_of_lt eR]
  ·rename_i ZA;have hl:(n+1)*z.length=n*z.length+z.length:=Nat.succ_mul _ _;rw[AY z n (i-z.length) (by omega)]
   have:i%z.length=(i-z.length)%z.length:=by rw[Nat.mod_eq_sub_mod (by omega)]
   rw[this]
theorem eY (z:List Value)(n:Nat):(bR z n).length=n*z.length:=by
 induction n with
 |zero=>simp[bR]
 |succ n ih=>
  have e:bR z (n+1)=z++bR z n:=by simp[bR,List.replicate_succ]
  rw[e,List.length_append,ih,Nat.succ_mul];omega
theorem mP (z:Array Value)(n:Nat)(hz:z.size≠0):((Array.range (n*z.size)).map (λi=>z[i%z.size]!)).toList=bR z.toList n:=by
 apply List.ext_getElem?;intro i;by_cases h:i<n*z.size
 ·rw[AY _ _ _ (by simpa using h)]
  have hm:i%z.size<z.size:=Nat.mod_lt _ (by omega)
  simp[h,hm]
 ·rw[List.getElem?_eq_none (by simp;omega),List.getElem?_eq_none (by rw[eY];simp;omega)]
theorem mq (z:Array Value)(n:Nat)(hz:z.size≠0):(Builtin.zeroCells z n).toList=bR z.toList n:=mP z n hz
theorem km {z:Value}(h:gn z=true):dB μ z.cells.toList z.cells.toList:=by
 have hv:VR μ z z:=.closed h;refine dB.cells hv ?_;cases z<;>simp[gn,bY] at h<;>rfl
theorem kX {z:Value}(h:gn z=true)(n:Nat):dB μ (bR z.cells.toList n) (bR z.cells.toList n):=by
 induction n with
 |zero=>exact .nil
 |succ n ih=>
  have e: ∀l:List Value,bR l (n+1)=l++bR l n:=by intro l;simp[bR,List.replicate_succ]
  rw[e];exact(km h).append ih
theorem AZ {v:Value}(h:bY v=true):av v=true:=by cases v<;>first|rfl| (simp[bY] at h)
theorem ri {z:Value}(h:gn z=true):z.cells.toList.all av=true:=by
 cases z with
 |agg cs=>
  simp only[gn,List.all_eq_true] at h;simp only[Value.cells,List.all_eq_true];exact λx hx=>AZ (h x hx)
 |_=>simp only[Value.cells];simp;exact AZ h
theorem mQ {z:Value}(h:gn z=true)(n:Nat):(bR z.cells.toList n).all av=true:=by
 induction n with
 |zero=>rfl
 |succ n ih=>
  have e: ∀l:List Value,bR l (n+1)=l++bR l n:=by intro l;simp[bR,List.replicate_succ]
  rw[e,List.all_append,ri h,ih];rfl
def Told (P:Program)(μ:Mu)(v:Value)(H':aa)(w:World)(B:Nat)(r:Result Value):Prop:=
 ∃v' μ' w',r= .ok v' w'∧μ.le μ'∧VR μ' v v'∧cQ P μ' H' w' B∧fI B w w'
theorem Told.same {v v':Value}(hS:cQ P μ H w B)(hv:VR μ v v'):Told P μ v H w B (.ok v' w):=⟨v',μ,w,rfl,μ.le_refl,hv,hS,fI.refl _ _⟩
theorem so {t t':TypeId}{cs:List Value}{c8:Array Value}(hS:cQ P μ H w B)(MC:cs.all av=true)(h:dB μ cs c8.toList):
  Told P μ (aO H t 1 cs).1 (aO H t 1 cs).2 w B ((do pure (.pointer (some (←newRow t' c8))):Sem Value).run P w):=by
 obtain⟨h1,h2⟩:=hS.alloc cs t' t 1 c8 c8.size rfl MC (by have:=h.1;simp at this;omega) (by rw[h.1,List.take_length];exact h) (λk v hk hv=>by have:=h.1;have:=(Array.getElem?_eq_some_iff.1 hv).1;simp at *;omega)
 refine⟨.pointer (some ⟨w.heap.size,0,none⟩),_,w.alloc (.cells c8 t'),rfl,h1,?_,h2,(fI.refl _ _).alloc hS.base _⟩;have:=VR.ptr (μ:=μ.up H.length ⟨w.heap.size,0,c8.size,1⟩) H.length 0 _ Mu.aH
 simpa[aO] using this
theorem tY {t:TypeId}{l c l' c' v:Value}(hS:cQ P μ H w B)(hl:VR μ l l')(hc:VR μ c c')(h:gL P t l c H=some (v,H')):
  Told P μ v H' w B ((Instr.makeSlice t l' c').run P w):=by
 unfold gL at h;split at h
 ·rename_i elem k a k' b hu;obtain rfl:=hl.int;obtain rfl:=hc.int;split at h
  ·rename_i size bytes z hz hb ZB;split at h
   ·rename_i ln;obtain⟨h0,hab,ZC,wJ,Hu⟩:=ln;cases h;obtain⟨i,hi,Tm⟩:=nz hb;obtain⟨_,oS,n,hn,vL⟩:=dR ZB w;rw[hz] at hn;cases hn;have w1:IntKind.i64.wrap a=a:=by rw[IntKind.wrap_i64];omega
    have w2:IntKind.i64.wrap b=b:=by rw[IntKind.wrap_i64];omega
    have nA:(0:Nat)<size:=by omega
    have dX:b.toNat*size=0↔b.toNat=0:=by simp[Nat.mul_eq_zero];omega
    have hmul:(i.bytes:Int)*b≤17592186044416:=by
     have h1:(i.bytes:Int)≤4096:=by omega
     have h2:0≤b:=by omega
     calc (i.bytes:Int)*b≤4096*b:=Int.mul_le_mul_of_nonneg_right h1 h2
      _≤17592186044416:=by omega
    have kj: ∃c8:Array Value,c8.toList=bR z.cells.toList b.toNat∧(Instr.makeSlice t (.int k a) (.int k' b)).run P w= .ok (.slice (some ⟨w.heap.size,0,none⟩) a.toNat b.toNat) (w.alloc (.cells c8 elem)):=by
     have Uq: ¬(b<0∨(281474976710656:Int)<(i.bytes:Int)*b):=by omega
     by_cases Tn:b.toNat=0
     ·refine⟨(Array.range 0).map (λ_=>default),by simp[Tn,bR],?_⟩
      have:b=0:=by omega
      subst this;have:a=0:=by omega
      subst this;simp[Instr.makeSlice,run_underlying hu,asInt,asIntOf,lf hi,IntKind.wrap_i64,eh hz,newRow]
     ·refine⟨(Array.range (b.toNat*size)).map (λi=>z.cells[i%z.cells.size]!),by rw[←mP _ _ (by omega),vL],?_⟩
      have A7: ¬(a<0∨b<a):=by omega
      simp[Instr.makeSlice,run_underlying hu,asInt,asIntOf,lf hi,w1,w2,eh hz,newRow,(dR ZB _).1];rw[if_neg (by rintro(((h|h)|h)|h)<;>omega),if_neg (λe=>Tn (dX.1 e))]
    obtain⟨c8,e,dU⟩:=kj;rw[dU];have hlen:c8.size=b.toNat*size:=by
     have:=congrArg List.length e
     rw[eY] at this;simp at this;rw[this,vL]
    obtain⟨h1,h2⟩:=hS.alloc (bR z.cells.toList b.toNat) elem elem size c8 c8.size rfl (mQ oS _) (by rw[←e];simp) (by rw[←e,List.take_length,e];exact kX oS _) (λk v hk hv=>by have:=(Array.getElem?_eq_some_iff.1 hv).1;rw[←e] at hk;simp at hk;omega)
    refine⟨_,_,_,rfl,h1,?_,h2,(fI.refl _ _).alloc hS.base _⟩;have:=VR.slice (μ:=μ.up H.length ⟨w.heap.size,0,c8.size,size⟩) H.length 0 a.toNat b.toNat b.toNat _ Mu.aH (by omega) (Nat.le_refl _) (by simp[hlen])
    simpa using this
   ·cases h
  ·cases h
 ·cases h
theorem MI {c c':List Value}(hc:dB μ c c')(off:Nat): ∀(k:Nat) {cs c8:Array Value},dB μ cs.toList c8.toList→
  dB μ ((c.zipIdx k).foldl (λcs (x:Value×Nat)=>cs.setIfInBounds (off+x.2) x.1) cs).toList ((c'.zipIdx k).foldl (λcs (x:Value×Nat)=>cs.setIfInBounds (off+x.2) x.1) c8).toList:=by
 induction c generalizing c' with
 |nil=>intro k cs c8 h;rw[hc.iB];exact h
 |cons a r ih=>
  intro k cs c8 h;obtain⟨b,y,rfl,h1,h2⟩:=hc.fS;simp only[List.zipIdx_cons,List.foldl_cons];refine ih h2 (k+1) ?_;simp only[Array.toList_setIfInBounds];exact h.set h1 _
theorem nB (place:Nat→Option (Nat×Nat)): ∀{ps zU:List (Nat×Value)} {cs c8:Array Value} {r:Array Value},dB μ cs.toList c8.toList→
  ps.map (·.1)=zU.map (·.1)→dB μ (ps.map (·.2)) (zU.map (·.2))→ps.all (λp=>known p.2)=true→Instr.fill place cs ps=some r→
  ∃r',Instr.fill place c8 zU=some r'∧dB μ r.toList r'.toList:=by
 intro ps;induction ps with
 |nil=>
  intro zU cs c8 r hc h1 h2 hk h;cases zU with
  |nil=>simp only[Instr.fill] at h ⊢;cases h;exact⟨_,rfl,hc⟩
  |cons=>simp at h1
 |cons p ps ih=>
  intro zU cs c8 r hc h1 h2 hk h;cases zU with
  |nil=>simp at h1
  |cons p' zU=>
   obtain⟨i,v⟩:=p;obtain⟨i',v'⟩:=p';simp only[List.map_cons,List.cons.injEq] at h1 h2;obtain⟨rfl,h1⟩:=h1;obtain⟨b,y,e,r1,r2⟩:=h2.fS;cases e;simp only[List.all_cons,Bool.and_eq_true] at hk;have lK:=dB.cells r1 hk.1;have Ur:v.cells.size=v'.cells.size:=by simpa using lK.1
   have wK:cs.size=c8.size:=by simpa using hc.1
   simp only[Instr.fill] at h ⊢;cases hp:place i with
   |none=>rw[hp] at h;cases h
   |some q=>
    obtain⟨off,size⟩:=q;rw[hp] at h;simp only at h ⊢;rw[←Ur, ←wK];split at h
    ·cases h
    ·rename_i ln;rw[if_neg ln];refine ih ?_ h1 r2 hk.2 h;have:=MI lK off 0 hc
     rw[←Array.foldl_toList, ←Array.foldl_toList,Array.toList_zipIdx,Array.toList_zipIdx];exact this
theorem A8 (place:Nat→Option (Nat×Nat)): ∀{ps:List (Nat×Value)} {cs r:Array Value},Instr.fill place cs ps=some r→r.size=cs.size:=by
 intro ps;induction ps with
 |nil=>intro cs r h;simp only[Instr.fill] at h;cases h;rfl
 |cons p ps ih=>
  intro cs r h;obtain⟨i,v⟩:=p;simp only[Instr.fill] at h;cases hp:place i with
  |none=>rw[hp] at h;cases h
  |some q=>
   obtain⟨off,size⟩:=q;rw[hp] at h;simp only at h;split at h
   ·cases h
   ·rename_i hc;rw[ih h, ←Array.foldl_toList];generalize v.cells.zipIdx.toList=l
    clear h ih hc;induction l generalizing cs with
    |nil=>rfl
    |cons a l P5=>rw[List.foldl_cons,P5];simp
theorem D3 (place:Nat→Option (Nat×Nat)): ∀{ps:List (Nat×Value)} {cs r:Array Value},cs.toList.all av=true→ps.all (λp=>p.2.cells.toList.all av)=true→Instr.fill place cs ps=some r→r.toList.all av=true:=by
 intro ps;induction ps with
 |nil=>intro cs r hc _ h;simp only[Instr.fill] at h;cases h;exact hc
 |cons p ps ih=>
  intro cs r hc hk h;obtain⟨i,v⟩:=p;simp only[List.all_cons,Bool.and_eq_true] at hk;simp only[Instr.fill] at h;cases hp:place i with
  |none=>rw[hp] at h;cases h
  |some q=>
   obtain⟨off,size⟩:=q;rw[hp] at h;simp only at h;split at h
   ·cases h
   ·refine ih ?_ hk.2 h;rw[←Array.foldl_toList,Array.toList_zipIdx];have key: ∀(l:List Value) (k:Nat) (cs:Array Value),l.all av=true→cs.toList.all av=true→
      ((l.zipIdx k).foldl (λcs (x:Value×Nat)=>cs.setIfInBounds (off+x.2) x.1) cs).toList.all av=true:=by
     intro l;induction l with
     |nil=>intro k cs _ h;exact h
     |cons a l P5=>
      intro k cs ha lK;simp only[List.all_cons,Bool.and_eq_true] at ha;simp only[List.zipIdx_cons,List.foldl_cons];refine P5 _ _ ha.2 ?_;rw[List.all_eq_true] at lK ⊢;intro x hx;simp only[Array.toList_setIfInBounds] at hx;rcases List.mem_or_eq_of_mem_set hx with hx|rfl
      ·exact lK x hx
      ·exact ha.1
    exact key _ 0 _ hk.1 hc
theorem FN {fields:Array Field}{pl:Array (Nat×Nat)}(h:placesOf P fields=some pl)(w:World):
  (fields.mapM λ(f:Field)=>do pure (f.offset, ←sizeOf f.type):Sem (Array (Nat×Nat))).run P w= .ok pl w:=by
 unfold placesOf at h;rw[Option.map_eq_some_iff] at h;obtain⟨l,hl,rfl⟩:=h;rw[Array.mapM_eq_mapM_toList];have: ∀(fs:List Field) (l:List (Nat×Nat)),(fs.mapM λf=>(il P f.type).map λn=>(f.offset,n))=some l→
   (fs.mapM λ(f:Field)=>do pure (f.offset, ←sizeOf f.type):Sem (List (Nat×Nat))).run P w= .ok l w:=by
  intro fs;induction fs with
  |nil=>intro l h;simp at h;subst h;rfl
  |cons f r ih=>
   intro l h;rw[List.mapM_cons] at h;simp only[Option.bind_eq_bind,Option.bind_eq_some_iff,Option.map_eq_some_iff] at h;obtain⟨q,⟨n,hn,rfl⟩,l2,DO,e⟩:=h;cases e;rw[List.mapM_cons];simp only[Sem.run_bind,eh hn,Result.andThen_ok,Sem.run_pure,ih l2 DO]
 simp only[Sem.run_map,this _ _ hl,Result.andThen_ok]
theorem BP {t:TypeId}{ps zU:List (Nat×Value)}{v:Value}(h1:ps.map (·.1)=zU.map (·.1))(h2:dB μ (ps.map (·.2)) (zU.map (·.2)))(h:aE P t ps=some v)(w:World):
  ∃v',(Instr.build t zU.toArray).run P w= .ok v' w∧VR μ v v':=by
 unfold aE at h;split at h
 ·cases h
 ·rename_i hk;have hk:ps.all (λp=>known p.2)=true:=by simpa using hk
  split at h
  ·rename_i z fields hz hu;cases hp:placesOf P fields with
   |none=>rw[hp] at h;cases h
   |some pl=>
    rw[hp] at h;simp only[Option.map_eq_some_iff] at h;obtain⟨r,hr,rfl⟩:=h;obtain⟨FB,oS,_⟩:=dR hz w;obtain⟨r',Us,hv⟩:=nB _ (km oS) h1 h2 hk hr;refine⟨.agg r',?_,hv.agg⟩;have BQ:=FN hp w;simp only[Instr.build,Sem.run_bind,FB,Result.andThen_ok,run_underlying hu,BQ];simp[Us]
  ·rename_i z n elem hz hu;cases hs:il P elem with
   |none=>rw[hs] at h;cases h
   |some size=>
    rw[hs] at h;simp only[Option.map_eq_some_iff] at h;obtain⟨r,hr,rfl⟩:=h;obtain⟨FB,oS,_⟩:=dR hz w;obtain⟨r',Us,hv⟩:=nB _ (km oS) h1 h2 hk hr;refine⟨.agg r',?_,hv.agg⟩;simp only[Instr.build,Sem.run_bind,FB,Result.andThen_ok,run_underlying hu,eh hs];simp[Us]
  ·cases h
theorem sq {t:TypeId}{n:Nat}{ps zU:List (Nat×Value)}{v:Value}(hS:cQ P μ H w B)(h1:ps.map (·.1)=zU.map (·.1))(h2:dB μ (ps.map (·.2)) (zU.map (·.2)))(h:au P t n ps H=some (v,H')):Told P μ v H' w B ((Instr.buildSlice t n zU.toArray).run P w):=by
 unfold au at h;split at h
 ·cases h
 ·rename_i hk;have Hv:ps.all (λp=>p.2.cells.toList.all av)=true:=by simpa using hk
  have hk:ps.all (λp=>known p.2)=true:=by
   rw[List.all_eq_true] at Hv ⊢;intro p hp;have:=Hv p hp
   revert this
   cases p.2<;>simp[Value.cells,av,known]
  split at h
  ·rename_i elem hu;split at h
   ·rename_i size z hs hz;split at h
    ·rename_i hc;simp only[Bool.and_eq_true,decide_eq_true_eq,ne_eq] at hc;obtain⟨wL,nA⟩:=hc;obtain⟨FB,oS,m,hm,vL⟩:=dR hz w;rw[hs] at hm;cases hm;cases hf:Instr.fill (λi=>some (i*size,size)) (bR z.cells.toList n).toArray ps with
     |none=>rw[hf] at h;cases h
     |some cs=>
      rw[hf] at h;cases h;obtain⟨c8,D4,hv⟩:=nB (c8:=(bR z.cells.toList n).toArray) _ (by simpa using kX oS n) h1 h2 hk hf
      have hlen:c8.size=n*size:=by
       rw[A8 _ D4];simp[eY,vL]
      have dU:(Instr.buildSlice t n zU.toArray).run P w= .ok (.slice (some ⟨w.heap.size,0,none⟩) n n) (w.alloc (.cells c8 elem)):=by
       have ab0:(0:Nat)<size:=Nat.pos_of_ne_zero (by simpa using nA)
       have Jc: ¬(n*size>2^24):=by simpa using wL
       by_cases h0:n=0
       ·subst h0;have e:(bR z.cells.toList 0).toArray=(Array.range (0*size)).map (λi=>(#[]:Array Value)[i%(#[]:Array Value).size]!):=by simp[bR]
        rw[e] at D4;simp only[Instr.buildSlice,Sem.run_bind,run_underlying hu,eh hs,Result.andThen_ok,Sem.run_ite,Sem.run_pure,Nat.zero_mul,if_true];simp only[Nat.zero_mul] at D4;simp only[D4];rfl
       ·have dX: ¬n*size=0:=by simp[Nat.mul_eq_zero];omega
        have e:(bR z.cells.toList n).toArray=(Array.range (n*size)).map (λi=>z.cells[i%z.cells.size]!):=by
         rw[←mP _ _ (by omega),vL]
        rw[e] at D4;simp only[Instr.buildSlice,Sem.run_bind,run_underlying hu,eh hs,Result.andThen_ok,Sem.run_ite,Jc,if_false,Sem.run_pure,dX,FB,D4];rfl
      rw[dU];obtain⟨g1,g2⟩:=hS.alloc cs.toList elem elem size c8 c8.size rfl (D3 _ (by simpa using mQ oS n) Hv hf) (by have:=hv.1;simp at this ⊢;omega) (by rw[hv.1,List.take_length];exact hv) (λk v hk u9=>by have:=hv.1;have:=(Array.getElem?_eq_some_iff.1 u9).1;simp at *;omega)
      refine⟨_,_,_,rfl,g1,?_,g2,(fI.refl _ _).alloc hS.base _⟩;have:=VR.slice (μ:=μ.up H.length ⟨w.heap.size,0,c8.size,size⟩) H.length 0 n n n _ Mu.aH (Nat.le_refl _) (Nat.le_refl _) (by simp[hlen])
      simpa using this
    ·cases h
   ·cases h
  ·cases h
end Go.Proofs.YtjgmnoaalbbonaaGreatA.Am
end
