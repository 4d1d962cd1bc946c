/- Texts of the proof of helpLogic_holds, put together by a small program of ours (names shortened, spaces taken out). No condition beyond the given statement. -/
import Derived.Test.YtgfgglponbmgmaaGreatHLG1
set_option linter.unusedVariables false
set_option linter.unusedSimpArgs false
set_option linter.unnecessarySimpa false
noncomputable section
section
namespace Go.Proofs.YtgfgglponbmgmaaGreatA.Am
open Go.RowKit (Below)
variable {P:Program} {μ:Mu} {H H':aa} {w:World} {B:Nat}
theorem qY: ∀(d:Nat) {t:TypeId} {x y x' y':Value} {b:Bool},VR μ x x'→VR μ y y'→iF P d t x y=some b→∀w,(Op.equalIn d t x' y').run P w= .ok b w:=by
 intro d;induction d with
 |zero=>intro t x y x' y' b hx hy h;simp[iF] at h
 |succ d ih=>
  intro t x y x' y' b hx hy h w;unfold iF at h;split at h
  ·rename_i a c hu;rw[hx.bool,hy.bool];cases h;simp[Op.equalIn,run_underlying hu]
  ·rename_i k a k' c hu;rw[hx.int,hy.int];split at h
   ·rename_i e;cases h;simp[Op.equalIn,run_underlying hu,e]
   ·cases h
  ·rename_i a c hu;rw[hx.string,hy.string];cases h;simp[Op.equalIn,run_underlying hu]
  ·rename_i c hu;obtain⟨c',rfl,hn⟩:=hy.om;rw[hx.YG];cases h;simp[Op.equalIn,run_underlying hu,hn]
  ·rename_i a hu;obtain⟨i,off,l,rfl,hl,rfl⟩:=hx.mL;rw[hy.YG];cases h;simp[Op.equalIn,run_underlying hu]
  ·rename_i n c a n' c' hu;obtain⟨rfl,rfl,rfl⟩:=hx.gZ;obtain⟨_,a',c2,rfl,hn,_⟩:=hy.eW;cases h;simp[Op.equalIn,run_underlying hu,hn]
  ·rename_i a n c n' c' hu;obtain⟨rfl,rfl,rfl⟩:=hy.gZ;obtain⟨_,a',c2,rfl,hn,_⟩:=hx.eW;cases h;cases a' with
   |none=>simp at hn
   |some a'=>simp[Op.equalIn,run_underlying hu]
  ·rename_i hu;rw[hx.nilFunc,hy.nilFunc];cases h;simp[Op.equalIn,run_underlying hu]
  ·rename_i hu;obtain⟨YH,f',c',rfl⟩:=hy.qO;rw[hx.nilFunc];cases h;simp[Op.equalIn,run_underlying hu]
  ·rename_i hu;obtain⟨YH,f',c',rfl⟩:=hx.qO;rw[hy.nilFunc];cases h;simp[Op.equalIn,run_underlying hu]
  ·rename_i fields xs ys hu;obtain⟨xs',rfl,YL⟩:=hx.oZ;obtain⟨ys',rfl,Yf⟩:=hy.oZ;split at h
   ·cases h
   ·rename_i hs;have PB:P.stoodInHeld t=false:=by simpa using hs
    have key: ∀(l:List Field),eqFields P (iF P d) xs ys l=some b→(forIn (m:=Sem) l ((none:Option Bool),()) λf __s=>
      if f.name= "_" then pure (ForInStep.yield (none,()))
      else do
       let u ←part f.type xs' f.offset
       let v ←part f.type ys' f.offset
       let e ←Op.equalIn d f.type u v
       if e=false then pure (ForInStep.done (some false,())) else pure (ForInStep.yield (none,()))).run P w= .ok (if b then(none,()) else(some false,())) w:=by
     intro l;induction l with
     |nil=>intro hb;simp only[eqFields] at hb;cases hb;rfl
     |cons f r PC=>
      intro hb;simp only[eqFields] at hb;rw[List.forIn_cons];by_cases hn:f.name= "_"
      ·rw[if_pos hn] at hb;simp only[hn,if_true,Sem.run_bind,Sem.run_pure,Result.andThen_ok];exact PC hb
      ·rw[if_neg hn] at hb;cases Mn:apart P f.type xs f.offset with
       |none=>simp only[Mn] at hb;cases hb
       |some u=>
        cases Ud:apart P f.type ys f.offset with
        |none=>simp only[Mn,Ud] at hb;cases hb
        |some v=>
         simp only[Mn,Ud] at hb;obtain⟨u',ru,vu⟩:=lH YL Mn w;obtain⟨v',rv,vv⟩:=lH Yf Ud w;cases he:iF P d f.type u v with
         |none=>rw[he] at hb;cases hb
         |some e=>
          have hr:=ih vu vv he w;rw[he] at hb;cases e with
          |false=>
           cases hb;simp[hn,ru,rv,hr]
          |true=>
           simp only[hn,if_false,Sem.run_bind,ru,rv,hr,Result.andThen_ok,Bool.true_eq_false,Sem.run_pure];exact PC hb
    have k:=key fields.toList h;simp[Op.equalIn,run_underlying hu,PB];rw[←Array.forIn_toList,k];cases b<;>simp
  ·cases h
theorem Bh {op:BinOp}{k:IntKind}{a b:Int}{v:Value}(hs:op≠ .shl∧op≠ .shr)(h:EJ op k a b=some v)(t:TypeId)(w:World):
  (binOp op t (.int k a) (.int k b)).run P w= .ok v w∧cp v=true:=by
 cases op<;>simp only[EJ] at h<;>first
  | (exact absurd rfl hs.1)| (exact absurd rfl hs.2)
  | (cases h;exact⟨by simp[binOp,Op.intArith,Op.intCmp,Op.intBits,bits],rfl⟩)
  | (
   split at h
   ·cases h
   ·rename_i hb;cases h;exact⟨by simp[binOp,Op.intDiv,hb],rfl⟩)
theorem qZ {op:BinOp}{k k':IntKind}{a b:Int}{v:Value}(hs:op= .shl∨op= .shr)(h:qk op k a b=some v)(t:TypeId)(w:World):
  (binOp op t (.int k a) (.int k' b)).run P w= .ok v w∧cp v=true:=by
 unfold qk at h;split at h
 ·cases h
 ·rename_i hb;rcases hs with rfl|rfl<;>(simp only at h;cases h;exact⟨by simp[binOp,Op.shift,hb],rfl⟩)
theorem EN {op:BinOp}{a b:ByteArray}{v:Value}(h:Ua op a b=some v)(t:TypeId)(w:World):
  (binOp op t (.string a) (.string b)).run P w= .ok v w∧cp v=true:=by
 cases op<;>simp only[Ua,qL] at h<;>first
  | (cases h;exact⟨by simp[binOp,Op.stringOp],rfl⟩)
  | (cases h)
theorem fR {op:BinOp}{t:TypeId}{ox oy:Operand}{x y:Value}(h1:x≠ .nilIface)(h2: ∀c,x≠ .agg c)(w:World):
  (eqGuard op t ox oy x y).run P w= .ok () w:=by
 by_cases hop:op= .eql∨op= .neq
 ·rcases hop with rfl|rfl<;>(cases x<;>first|rfl| (exact absurd rfl h1)| (exact absurd rfl (h2 _)))
 ·cases op<;>first|rfl| (exact absurd (.inl rfl) hop)| (exact absurd (.inr rfl) hop)
theorem IP {op:BinOp}{t:TypeId}{ox oy:Operand}{x y:Array Value}(h:P.eqGuardType P.depth t=false)(w:World):
  (eqGuard op t ox oy (.agg x) (.agg y)).run P w= .ok () w:=by
 by_cases hop:op= .eql∨op= .neq
 ·rcases hop with rfl|rfl<;>simp[eqGuard,h]
 ·cases op<;>first|rfl| (exact absurd (.inl rfl) hop)| (exact absurd (.inr rfl) hop)
theorem EO {op:BinOp}{t:TypeId}{x y x' y' v:Value}(hx:VR μ x x')(hy:VR μ y y')(h:ai P op t x y=some v)(ox oy:Operand)(w:World):
  (do eqGuard op t ox oy x' y';binOp op t x' y').run P w= .ok v w∧cp v=true:=by
 have vT: ∀{op:BinOp} {x y:Value},VR μ x x'→VR μ y y'→
   (match op with| .eql=>(iF P Op.maxDepth t x y).map Value.bool| .neq=>(iF P Op.maxDepth t x y).map λb=>Value.bool (!b)|_=>none)=some v→
   (∀w,(binOp .eql t x' y').run P w=(do pure (Value.bool (←Op.equal t x' y')):Sem Value).run P w)→
   (∀w,(binOp .neq t x' y').run P w=(do pure (Value.bool (!(←Op.equal t x' y'))):Sem Value).run P w)→(binOp op t x' y').run P w= .ok v w∧cp v=true:=by
  intro op x y hx hy h e1 e2;split at h
  ·rw[Option.map_eq_some_iff] at h;obtain⟨b,hb,rfl⟩:=h;rw[e1];exact⟨by simp[Op.equal,qY _ hx hy hb w],rfl⟩
  ·rw[Option.map_eq_some_iff] at h;obtain⟨b,hb,rfl⟩:=h;rw[e2];exact⟨by simp[Op.equal,qY _ hx hy hb w],rfl⟩
  ·cases h
 unfold ai at h;split at h
 ·rename_i k a k' b;obtain rfl:=hx.int;obtain rfl:=hy.int;simp only[Sem.run_bind,fR (P:=P) (op:=op) (t:=t) (ox:=ox) (oy:=oy) (x:=.int k a) (y:=.int k' b) (by simp) (by simp) w,Result.andThen_ok]
  split at h
  ·exact qZ (.inl rfl) h t w
  ·exact qZ (.inr rfl) h t w
  ·rename_i n1 n2;split at h
   ·rename_i e;subst e;exact Bh ⟨λe=>n1 e,λe=>n2 e⟩ h t w
   ·cases h
 ·rename_i a b;obtain rfl:=hx.string;obtain rfl:=hy.string;simp only[Sem.run_bind,fR (P:=P) (op:=op) (t:=t) (ox:=ox) (oy:=oy) (x:=.string a) (y:=.string b) (by simp) (by simp) w,Result.andThen_ok]
  exact EN h t w
 ·obtain⟨a',rfl,ha⟩:=hx.oZ;obtain⟨b',rfl,hb⟩:=hy.oZ;split at h
  ·cases h
  ·rename_i hg;simp only[Sem.run_bind,IP (P:=P) (op:=op) (t:=t) (ox:=ox) (oy:=oy) (x:=a') (y:=b') (by simpa using hg) w,Result.andThen_ok]
   exact vT hx hy h (λ_=>rfl) (λ_=>rfl)
 ·obtain rfl:=hx.bool;obtain rfl:=hy.bool;simp only[Sem.run_bind,fR (P:=P) (op:=op) (t:=t) (ox:=ox) (oy:=oy) (x:=.bool _) (y:=.bool _) (by simp) (by simp) w,Result.andThen_ok]
  exact vT hx hy h (λ_=>rfl) (λ_=>rfl)
 ·obtain⟨a',rfl,_⟩:=hx.om;obtain⟨b',rfl,_⟩:=hy.om;simp only[Sem.run_bind,fR (P:=P) (op:=op) (t:=t) (ox:=ox) (oy:=oy) (x:=.pointer a') (y:=.pointer b') (by simp) (by simp) w,Result.andThen_ok]
  exact vT hx hy h (λ_=>rfl) (λ_=>rfl)
 ·obtain⟨_,a',c',rfl,_⟩:=hx.eW;obtain⟨_,b',d',rfl,_⟩:=hy.eW;simp only[Sem.run_bind,fR (P:=P) (op:=op) (t:=t) (ox:=ox) (oy:=oy) (x:=.slice a' _ c') (y:=.slice b' _ d') (by simp) (by simp) w,Result.andThen_ok]
  exact vT hx hy h (λ_=>rfl) (λ_=>rfl)
 ·obtain rfl:=hx.nilFunc;obtain rfl:=hy.nilFunc;simp only[Sem.run_bind,fR (P:=P) (op:=op) (t:=t) (ox:=ox) (oy:=oy) (x:=.nilFunc) (y:=.nilFunc) (by simp) (by simp) w,Result.andThen_ok]
  exact vT hx hy h (λ_=>rfl) (λ_=>rfl)
 ·obtain rfl:=hx.nilFunc;obtain⟨YH,f',c',rfl⟩:=hy.qO;simp only[Sem.run_bind,fR (P:=P) (op:=op) (t:=t) (ox:=ox) (oy:=oy) (x:=.nilFunc) (y:=.func _ f' c') (by simp) (by simp) w,Result.andThen_ok]
  exact vT hx hy h (λ_=>rfl) (λ_=>rfl)
 ·obtain rfl:=hy.nilFunc;obtain⟨YH,f',c',rfl⟩:=hx.qO;simp only[Sem.run_bind,fR (P:=P) (op:=op) (t:=t) (ox:=ox) (oy:=oy) (x:=.func _ f' c') (y:=.nilFunc) (by simp) (by simp) w,Result.andThen_ok]
  exact vT hx hy h (λ_=>rfl) (λ_=>rfl)
 ·cases h
theorem IQ {op:UnOp}{x x' v:Value}(hx:VR μ x x')(h:iG op x=some v)(w:World):(Op.unary op x').run P w= .ok v w∧cp v=true:=by
 unfold iG at h;split at h
 ·obtain rfl:=hx.int;cases h;exact⟨by simp[Op.unary,Op.intArith],rfl⟩
 ·obtain rfl:=hx.bool;cases h;exact⟨by simp[Op.unary],rfl⟩
 ·cases h
variable {P:Program} {μ:Mu} {H H':aa} {w:World} {B:Nat}
theorem jD {v v':Value}{n:Int}(hv:VR μ v v')(h:ql v=some n): ∃k,v'= .int k n:=by
 unfold ql at h;split at h
 ·rename_i k m;cases h;exact⟨k,hv.int⟩
 ·cases h
theorem jE {k:IntKind}{n:Int}{y:Nat}{c:BoundsCode}(h0:0≤n)(h:n≤y)(w:World):(Instr.sliceBound (.int k n) y c).run P w= .ok n.toNat w:=by
 simp[Instr.sliceBound,asIntOf,h0,h]
def LP (μ:Mu)(x x':Option Value):Prop:=(x=none∧x'=none)∨∃a a',x=some a∧x'=some a'∧VR μ a a'
theorem vU {len cap eY:Nat}{lo hi PD sO:Option Value}{h l:Int}(IS:LP μ lo PD)(IT:LP μ hi sO)(hh:db len hi=some h)(hl:db 0 lo=some l)(hb:0≤h∧h≤cap∧0≤l∧l≤h)(hc:cap≤eY)(w:World):(Instr.sliceBounds true len eY PD sO none).run P w= .ok (l.toNat,h.toNat,eY) w:=by
 rcases IT with⟨rfl,rfl⟩|⟨a,a',rfl,rfl,r⟩<;>rcases IS with⟨rfl,rfl⟩|⟨b,b',rfl,rfl,r2⟩
 ·simp only[db] at hh hl;cases hh;cases hl;simp[Instr.sliceBounds]
 ·simp only[db] at hh hl;cases hh;obtain⟨k,rfl⟩:=jD r2 hl;have:=jE (P:=P) (k:=k) (y:=len) (c:=.sliceB) hb.2.2.1 hb.2.2.2 w
  simp[Instr.sliceBounds,this]
 ·simp only[db] at hh hl;cases hl;obtain⟨k,rfl⟩:=jD r hh;have:=jE (P:=P) (k:=k) (y:=eY) (c:=.sliceAcap) hb.1 (by omega) w
  simp[Instr.sliceBounds,this]
 ·obtain⟨k,rfl⟩:=jD r hh;obtain⟨k2,rfl⟩:=jD r2 hl;have h1:=jE (P:=P) (k:=k) (y:=eY) (c:=.sliceAcap) hb.1 (by omega) w
  have h2:=jE (P:=P) (k:=k2) (n:=l) (y:=h.toNat) (c:=.sliceB) hb.2.2.1 (by omega) w
  simp[Instr.sliceBounds,h1,h2]
theorem adV {t:TypeId}{x x' v:Value}{lo hi PD sO:Option Value}(hS:cJ P μ H w B)(hx:VR μ x x')(IS:LP μ lo PD)(IT:LP μ hi sO)(h:og P H t x lo hi=some v):
  ∃v',(Instr.sliceAt t x' PD sO none).run P w= .ok v' w∧VR μ v v':=by
 unfold og at h;split at h
 ·rename_i elem a len cap hu;cases hz:jB P elem with
  |none=>rw[hz] at h;cases h
  |some size=>
   rw[hz] at h;simp only at h;obtain⟨CX,a',eY,rfl,EP,hcc⟩:=hx.eW;split at h
   ·rename_i h' l hh hl;split at h
    ·rename_i hb;have dF:(Instr.sliceAt t (.slice a' len eY) PD sO none).run P w= .ok (.slice (if eY=l.toNat then a' else a'.map (·.add (l.toNat*size))) (h'.toNat-l.toNat) (eY-l.toNat)) w:=by
      simp[Instr.sliceAt,Instr.slice,run_underlying hu,vU IS IT hh hl hb hcc,eh hz]
     refine⟨_,dF,?_⟩;obtain⟨h0,hc,l0,lh⟩:=hb;cases a with
     |none=>
      obtain⟨rfl,rfl,e2⟩:=hx.gZ;cases e2;cases h;have e1:h'=0:=by omega
      have e3:l=0:=by omega
      subst e1;subst e3;simp;exact .plain _ rfl
     |some ad=>
      rcases hx.eD with⟨i,off,c2,lc,rfl,De,g1,g2,g3,e2⟩|⟨i,off,a2,rfl,rfl,rfl,e2⟩
      ·cases e2;simp only at h;have Ue:(if cap=0 then some (Value.slice (some ⟨i,off,none⟩) 0 0) else none)=some v→VR μ v (.slice (if eY=l.toNat then some ⟨lc.b,lc.o+off,none⟩ else(some ⟨lc.b,lc.o+off,none⟩:Option Addr).map (·.add (l.toNat*size))) (h'.toNat-l.toNat) (eY-l.toNat)):=by
        intro h;split at h
        case isFalse=>cases h
        rename_i hc0;cases h;have e1:h'=0:=by omega
        have e3:l=0:=by omega
        subst e1;subst e3;by_cases YM:eY=0
        ·subst YM;simp;exact .lU _ _ _
        ·simp[YM,ja];exact .slice i off 0 0 eY lc De (by omega) (by omega) g3
       cases hb:H.get i with
       |none=>rw[hb] at h;exact Ue h
       |some b=>
        rw[hb] at h;simp only at h;split at h
        case isFalse=>exact Ue h
        ·rename_i YN;cases h;obtain⟨m,hm,k⟩:=hS.ok i b hb;rw[De] at hm;cases hm;have Uf:lc.es=size:=k.es.trans YN;by_cases Df:eY=l.toNat
         ·rw[if_pos Df];have e1:h'.toNat-l.toNat=0:=by omega
          have e2:cap-l.toNat=0:=by omega
          have e3:eY-l.toNat=0:=by omega
          rw[e1,e2,e3];exact .lU _ _ _
         ·rw[if_neg Df];simp only[Option.map_some,ja,Nat.add_assoc];refine .slice i (off+l.toNat*size) (h'.toNat-l.toNat) (cap-l.toNat) (eY-l.toNat) lc De (by omega) (by omega) ?_
          rw[Uf] at g3 ⊢;have:eY*size=l.toNat*size+(eY-l.toNat)*size:=by rw[←Nat.add_mul];congr 1;omega
          omega
      ·cases e2;have e1:h'=0:=by omega
       have e3:l=0:=by omega
       subst e1;subst e3;have hv:v= .slice (some ⟨i,off,none⟩) 0 0:=by
        simp only at h;cases hb:H.get i with
        |none=>rw[hb] at h;simpa using h.symm
        |some b=>
         rw[hb] at h;simp only at h;split at h<;>simpa using h.symm
       subst hv;simp;exact .lU _ _ _
    ·cases h
   ·cases h
 ·cases h
theorem Ab (z:List Value): ∀(n i:Nat),i<n*z.length→(bK z n)[i]? =z[i%z.length]?
 |0,i,h=>by simp at h
 |n+1,i,h=>by
  have e:bK z (n+1)=z++bK z n:=by simp[bK,List.replicate_succ]
  rw[e,List.getElem?_append];split
  ·rename_i gB;rw[Nat.mod_eq_of_lt gB]
  ·rename_i Yg;have hl:(n+1)*z.length=n*z.length+z.length:=Nat.succ_mul _ _;rw[Ab z n (i-z.length) (by omega)]
   have:i%z.length=(i-z.length)%z.length:=by rw[Nat.mod_eq_sub_mod (by omega)]
   rw[this]
theorem eZ (z:List Value)(n:Nat):(bK z n).length=n*z.length:=by
 induction n with
 |zero=>simp[bK]
 |succ n ih=>
  have e:bK z (n+1)=z++bK z n:=by simp[bK,List.replicate_succ]
  rw[e,List.length_append,ih,Nat.succ_mul];omega
theorem my (z:Array Value)(n:Nat)(hz:z.size≠0):((Array.range (n*z.size)).map (λi=>z[i%z.size]!)).toList=bK z.toList n:=by
 apply List.ext_getElem?;intro i;by_cases h:i<n*z.size
 ·rw[Ab _ _ _ (by simpa using h)]
  have hm:i%z.size<z.size:=Nat.mod_lt _ (by omega)
  simp[h,hm]
 ·rw[List.getElem?_eq_none (by simp;omega),List.getElem?_eq_none (by rw[eZ];simp;omega)]
theorem lY (z:Array Value)(n:Nat)(hz:z.size≠0):(Builtin.zeroCells z n).toList=bK z.toList n:=my z n hz
theorem jL {z:Value}(h:fJ z=true):cT μ z.cells.toList z.cells.toList:=by
 have hv:VR μ z z:=.closed h;refine cT.cells hv ?_;cases z<;>simp[fJ,cp] at h<;>rfl
theorem kI {z:Value}(h:fJ z=true)(n:Nat):cT μ (bK z.cells.toList n) (bK z.cells.toList n):=by
 induction n with
 |zero=>exact .nil
 |succ n ih=>
  have e: ∀l:List Value,bK l (n+1)=l++bK l n:=by intro l;simp[bK,List.replicate_succ]
  rw[e];exact(jL h).append ih
theorem Ac {v:Value}(h:cp v=true):aD v=true:=by cases v<;>first|rfl| (simp[cp] at h)
theorem qu {z:Value}(h:fJ z=true):z.cells.toList.all aD=true:=by
 cases z with
 |agg cs=>
  simp only[fJ,List.all_eq_true] at h;simp only[Value.cells,List.all_eq_true];exact λx hx=>Ac (h x hx)
 |_=>simp only[Value.cells];simp;exact Ac h
theorem mA {z:Value}(h:fJ z=true)(n:Nat):(bK z.cells.toList n).all aD=true:=by
 induction n with
 |zero=>rfl
 |succ n ih=>
  have e: ∀l:List Value,bK l (n+1)=l++bK l n:=by intro l;simp[bK,List.replicate_succ]
  rw[e,List.all_append,qu h,ih];rfl
def Told (P:Program)(μ:Mu)(v:Value)(H':aa)(w:World)(B:Nat)(r:Result Value):Prop:=
 ∃v' μ' w',r= .ok v' w'∧μ.le μ'∧VR μ' v v'∧cJ P μ' H' w' B∧eN B w w'
theorem Told.same {v v':Value}(hS:cJ P μ H w B)(hv:VR μ v v'):Told P μ v H w B (.ok v' w):=⟨v',μ,w,rfl,μ.le_refl,hv,hS,eN.refl _ _⟩
theorem q7 {t t':TypeId}{cs:List Value}{eX:Array Value}(hS:cJ P μ H w B)(PZ:cs.all aD=true)(h:cT μ cs eX.toList):
  Told P μ (aS H t 1 cs).1 (aS H t 1 cs).2 w B ((do pure (.pointer (some (←newRow t' eX))):Sem Value).run P w):=by
 obtain⟨h1,h2⟩:=hS.alloc cs t' t 1 eX eX.size rfl PZ (by have:=h.1;simp at this;omega) (by rw[h.1,List.take_length];exact h) (λk v hk hv=>by have:=h.1;have:=(Array.getElem?_eq_some_iff.1 hv).1;simp at *;omega)
 refine⟨.pointer (some ⟨w.heap.size,0,none⟩),_,w.alloc (.cells eX t'),rfl,h1,?_,h2,(eN.refl _ _).alloc hS.base _⟩;have:=VR.ptr (μ:=μ.up H.length ⟨w.heap.size,0,eX.size,1⟩) H.length 0 _ Mu.aP
 simpa[aS] using this
theorem sP {t:TypeId}{l c l' c' v:Value}(hS:cJ P μ H w B)(hl:VR μ l l')(hc:VR μ c c')(h:fW P t l c H=some (v,H')):
  Told P μ v H' w B ((Instr.makeSlice t l' c').run P w):=by
 unfold fW at h;split at h
 ·rename_i elem k a k' b hu;obtain rfl:=hl.int;obtain rfl:=hc.int;split at h
  ·rename_i size bytes z hz hb YO;split at h
   ·rename_i pX;obtain⟨h0,hab,YP,vV,Gr⟩:=pX;cases h;obtain⟨i,hi,hib⟩:=qt hb;obtain⟨_,pH,n,hn,Bi⟩:=dN YO w;rw[hz] at hn;cases hn;have w1:IntKind.i64.wrap a=a:=by rw[IntKind.wrap_i64];omega
    have w2:IntKind.i64.wrap b=b:=by rw[IntKind.wrap_i64];omega
    have uq:(0:Nat)<size:=by omega
    have dy:b.toNat*size=0↔b.toNat=0:=by simp[Nat.mul_eq_zero];omega
    have hmul:(i.bytes:Int)*b≤17592186044416:=by
     have h1:(i.bytes:Int)≤4096:=by omega
     have h2:0≤b:=by omega
     calc (i.bytes:Int)*b≤4096*b:=Int.mul_le_mul_of_nonneg_right h1 h2
      _≤17592186044416:=by omega
    have qU: ∃eX:Array Value,eX.toList=bK z.cells.toList b.toNat∧(Instr.makeSlice t (.int k a) (.int k' b)).run P w= .ok (.slice (some ⟨w.heap.size,0,none⟩) a.toNat b.toNat) (w.alloc (.cells eX elem)):=by
     have Ug: ¬(b<0∨(281474976710656:Int)<(i.bytes:Int)*b):=by omega
     by_cases YQ:b.toNat=0
     ·refine⟨(Array.range 0).map (λ_=>default),by simp[YQ,bK],?_⟩
      have:b=0:=by omega
      subst this;have:a=0:=by omega
      subst this;simp[Instr.makeSlice,run_underlying hu,asInt,asIntOf,kM hi,IntKind.wrap_i64,eh hz,newRow]
     ·refine⟨(Array.range (b.toNat*size)).map (λi=>z.cells[i%z.cells.size]!),by rw[←my _ _ (by omega),Bi],?_⟩
      have hbl: ¬(a<0∨b<a):=by omega
      simp[Instr.makeSlice,run_underlying hu,asInt,asIntOf,kM hi,w1,w2,eh hz,newRow,(dN YO _).1];rw[if_neg (by rintro(((h|h)|h)|h)<;>omega),if_neg (λe=>YQ (dy.1 e))]
    obtain⟨eX,e,dF⟩:=qU;rw[dF];have hlen:eX.size=b.toNat*size:=by
     have:=congrArg List.length e
     rw[eZ] at this;simp at this;rw[this,Bi]
    obtain⟨h1,h2⟩:=hS.alloc (bK z.cells.toList b.toNat) elem elem size eX eX.size rfl (mA pH _) (by rw[←e];simp) (by rw[←e,List.take_length,e];exact kI pH _) (λk v hk hv=>by have:=(Array.getElem?_eq_some_iff.1 hv).1;rw[←e] at hk;simp at hk;omega)
    refine⟨_,_,_,rfl,h1,?_,h2,(eN.refl _ _).alloc hS.base _⟩;have:=VR.slice (μ:=μ.up H.length ⟨w.heap.size,0,eX.size,size⟩) H.length 0 a.toNat b.toNat b.toNat _ Mu.aP (by omega) (Nat.le_refl _) (by simp[hlen])
    simpa using this
   ·cases h
  ·cases h
 ·cases h
theorem Mo {c c':List Value}(hc:cT μ c c')(off:Nat): ∀(k:Nat) {cs eX:Array Value},cT μ cs.toList eX.toList→
  cT μ ((c.zipIdx k).foldl (λcs (x:Value×Nat)=>cs.setIfInBounds (off+x.2) x.1) cs).toList ((c'.zipIdx k).foldl (λcs (x:Value×Nat)=>cs.setIfInBounds (off+x.2) x.1) eX).toList:=by
 induction c generalizing c' with
 |nil=>intro k cs eX h;rw[hc.gY];exact h
 |cons a r ih=>
  intro k cs eX h;obtain⟨b,y,rfl,h1,h2⟩:=hc.fq;simp only[List.zipIdx_cons,List.foldl_cons];refine ih h2 (k+1) ?_;simp only[Array.toList_setIfInBounds];exact h.set h1 _
theorem mM (place:Nat→Option (Nat×Nat)): ∀{ps zd:List (Nat×Value)} {cs eX:Array Value} {r:Array Value},cT μ cs.toList eX.toList→
  ps.map (·.1)=zd.map (·.1)→cT μ (ps.map (·.2)) (zd.map (·.2))→ps.all (λp=>known p.2)=true→Instr.fill place cs ps=some r→
  ∃r',Instr.fill place eX zd=some r'∧cT μ r.toList r'.toList:=by
 intro ps;induction ps with
 |nil=>
  intro zd cs eX r hc h1 h2 hk h;cases zd with
  |nil=>simp only[Instr.fill] at h ⊢;cases h;exact⟨_,rfl,hc⟩
  |cons=>simp at h1
 |cons p ps ih=>
  intro zd cs eX r hc h1 h2 hk h;cases zd with
  |nil=>simp at h1
  |cons p' zd=>
   obtain⟨i,v⟩:=p;obtain⟨i',v'⟩:=p';simp only[List.map_cons,List.cons.injEq] at h1 h2;obtain⟨rfl,h1⟩:=h1;obtain⟨b,y,e,r1,r2⟩:=h2.fq;cases e;simp only[List.all_cons,Bool.and_eq_true] at hk;have qX:=cT.cells r1 hk.1;have P0:v.cells.size=v'.cells.size:=by simpa using qX.1
   have Uh:cs.size=eX.size:=by simpa using hc.1
   simp only[Instr.fill] at h ⊢;cases hp:place i with
   |none=>rw[hp] at h;cases h
   |some q=>
    obtain⟨off,size⟩:=q;rw[hp] at h;simp only at h ⊢;rw[←P0, ←Uh];split at h
    ·cases h
    ·rename_i pX;rw[if_neg pX];refine ih ?_ h1 r2 hk.2 h;have:=Mo qX off 0 hc
     rw[←Array.foldl_toList, ←Array.foldl_toList,Array.toList_zipIdx,Array.toList_zipIdx];exact this
theorem Ad (place:Nat→Option (Nat×Nat)): ∀{ps:List (Nat×Value)} {cs r:Array Value},Instr.fill place cs ps=some r→r.size=cs.size:=by
 intro ps;induction ps with
 |nil=>intro cs r h;simp only[Instr.fill] at h;cases h;rfl
 |cons p ps ih=>
  intro cs r h;obtain⟨i,v⟩:=p;simp only[Instr.fill] at h;cases hp:place i with
  |none=>rw[hp] at h;cases h
  |some q=>
   obtain⟨off,size⟩:=q;rw[hp] at h;simp only at h;split at h
   ·cases h
   ·rename_i hc;rw[ih h, ←Array.foldl_toList];generalize v.cells.zipIdx.toList=l
    clear h ih hc;induction l generalizing cs with
    |nil=>rfl
    |cons a l PC=>rw[List.foldl_cons,PC];simp
theorem Dg (place:Nat→Option (Nat×Nat)): ∀{ps:List (Nat×Value)} {cs r:Array Value},cs.toList.all aD=true→ps.all (λp=>p.2.cells.toList.all aD)=true→Instr.fill place cs ps=some r→r.toList.all aD=true:=by
 intro ps;induction ps with
 |nil=>intro cs r hc _ h;simp only[Instr.fill] at h;cases h;exact hc
 |cons p ps ih=>
  intro cs r hc hk h;obtain⟨i,v⟩:=p;simp only[List.all_cons,Bool.and_eq_true] at hk;simp only[Instr.fill] at h;cases hp:place i with
  |none=>rw[hp] at h;cases h
  |some q=>
   obtain⟨off,size⟩:=q;rw[hp] at h;simp only at h;split at h
   ·cases h
   ·refine ih ?_ hk.2 h;rw[←Array.foldl_toList,Array.toList_zipIdx];have key: ∀(l:List Value) (k:Nat) (cs:Array Value),l.all aD=true→cs.toList.all aD=true→
      ((l.zipIdx k).foldl (λcs (x:Value×Nat)=>cs.setIfInBounds (off+x.2) x.1) cs).toList.all aD=true:=by
     intro l;induction l with
     |nil=>intro k cs _ h;exact h
     |cons a l PC=>
      intro k cs ha qX;simp only[List.all_cons,Bool.and_eq_true] at ha;simp only[List.zipIdx_cons,List.foldl_cons];refine PC _ _ ha.2 ?_;rw[List.all_eq_true] at qX ⊢;intro x hx;simp only[Array.toList_setIfInBounds] at hx;rcases List.mem_or_eq_of_mem_set hx with hx|rfl
      ·exact qX x hx
      ·exact ha.1
    exact key _ 0 _ hk.1 hc
theorem ER {fields:Array Field}{pl:Array (Nat×Nat)}(h:placesOf P fields=some pl)(w:World):
  (fields.mapM λ(f:Field)=>do pure (f.offset, ←sizeOf f.type):Sem (Array (Nat×Nat))).run P w= .ok pl w:=by
 unfold placesOf at h;rw[Option.map_eq_some_iff] at h;obtain⟨l,hl,rfl⟩:=h;rw[Array.mapM_eq_mapM_toList];have: ∀(fs:List Field) (l:List (Nat×Nat)),(fs.mapM λf=>(jB P f.type).map λn=>(f.offset,n))=some l→
   (fs.mapM λ(f:Field)=>do pure (f.offset, ←sizeOf f.type):Sem (List (Nat×Nat))).run P w= .ok l w:=by
  intro fs;induction fs with
  |nil=>intro l h;simp at h;subst h;rfl
  |cons f r ih=>
   intro l h;rw[List.mapM_cons] at h;simp only[Option.bind_eq_bind,Option.bind_eq_some_iff,Option.map_eq_some_iff] at h;obtain⟨q,⟨n,hn,rfl⟩,l2,De,e⟩:=h;cases e;rw[List.mapM_cons];simp only[Sem.run_bind,eh hn,Result.andThen_ok,Sem.run_pure,ih l2 De]
 simp only[Sem.run_map,this _ _ hl,Result.andThen_ok]
theorem Bj {t:TypeId}{ps zd:List (Nat×Value)}{v:Value}(h1:ps.map (·.1)=zd.map (·.1))(h2:cT μ (ps.map (·.2)) (zd.map (·.2)))(h:aF P t ps=some v)(w:World):
  ∃v',(Instr.build t zd.toArray).run P w= .ok v' w∧VR μ v v':=by
 unfold aF at h;split at h
 ·cases h
 ·rename_i hk;have hk:ps.all (λp=>known p.2)=true:=by simpa using hk
  split at h
  ·rename_i z fields hz hu;cases hp:placesOf P fields with
   |none=>rw[hp] at h;cases h
   |some pl=>
    rw[hp] at h;simp only[Option.map_eq_some_iff] at h;obtain⟨r,hr,rfl⟩:=h;obtain⟨EF,pH,_⟩:=dN hz w;obtain⟨r',Ui,hv⟩:=mM _ (jL pH) h1 h2 hk hr;refine⟨.agg r',?_,hv.agg⟩;have Yh:=ER hp w;simp only[Instr.build,Sem.run_bind,EF,Result.andThen_ok,run_underlying hu,Yh];simp[Ui]
  ·rename_i z n elem hz hu;cases hs:jB P elem with
   |none=>rw[hs] at h;cases h
   |some size=>
    rw[hs] at h;simp only[Option.map_eq_some_iff] at h;obtain⟨r,hr,rfl⟩:=h;obtain⟨EF,pH,_⟩:=dN hz w;obtain⟨r',Ui,hv⟩:=mM _ (jL pH) h1 h2 hk hr;refine⟨.agg r',?_,hv.agg⟩;simp only[Instr.build,Sem.run_bind,EF,Result.andThen_ok,run_underlying hu,eh hs];simp[Ui]
  ·cases h
theorem q8 {t:TypeId}{n:Nat}{ps zd:List (Nat×Value)}{v:Value}(hS:cJ P μ H w B)(h1:ps.map (·.1)=zd.map (·.1))(h2:cT μ (ps.map (·.2)) (zd.map (·.2)))(h:ay P t n ps H=some (v,H')):Told P μ v H' w B ((Instr.buildSlice t n zd.toArray).run P w):=by
 unfold ay at h;split at h
 ·cases h
 ·rename_i hk;have Dh:ps.all (λp=>p.2.cells.toList.all aD)=true:=by simpa using hk
  have hk:ps.all (λp=>known p.2)=true:=by
   rw[List.all_eq_true] at Dh ⊢;intro p hp;have:=Dh p hp
   revert this
   cases p.2<;>simp[Value.cells,aD,known]
  split at h
  ·rename_i elem hu;split at h
   ·rename_i size z hs hz;split at h
    ·rename_i hc;simp only[Bool.and_eq_true,decide_eq_true_eq,ne_eq] at hc;obtain⟨vW,uq⟩:=hc;obtain⟨EF,pH,m,hm,Bi⟩:=dN hz w;rw[hs] at hm;cases hm;cases hf:Instr.fill (λi=>some (i*size,size)) (bK z.cells.toList n).toArray ps with
     |none=>rw[hf] at h;cases h
     |some cs=>
      rw[hf] at h;cases h;obtain⟨eX,Bk,hv⟩:=mM (eX:=(bK z.cells.toList n).toArray) _ (by simpa using kI pH n) h1 h2 hk hf
      have hlen:eX.size=n*size:=by
       rw[Ad _ Bk];simp[eZ,Bi]
      have dF:(Instr.buildSlice t n zd.toArray).run P w= .ok (.slice (some ⟨w.heap.size,0,none⟩) n n) (w.alloc (.cells eX elem)):=by
       have abj:(0:Nat)<size:=Nat.pos_of_ne_zero (by simpa using uq)
       have IU: ¬(n*size>2^24):=by simpa using vW
       by_cases h0:n=0
       ·subst h0;have e:(bK z.cells.toList 0).toArray=(Array.range (0*size)).map (λi=>(#[]:Array Value)[i%(#[]:Array Value).size]!):=by simp[bK]
        rw[e] at Bk;simp only[Instr.buildSlice,Sem.run_bind,run_underlying hu,eh hs,Result.andThen_ok,Sem.run_ite,Sem.run_pure,Nat.zero_mul,if_true];simp only[Nat.zero_mul] at Bk;simp only[Bk];rfl
       ·have dy: ¬n*size=0:=by simp[Nat.mul_eq_zero];omega
        have e:(bK z.cells.toList n).toArray=(Array.range (n*size)).map (λi=>z.cells[i%z.cells.size]!):=by
         rw[←my _ _ (by omega),Bi]
        rw[e] at Bk;simp only[Instr.buildSlice,Sem.run_bind,run_underlying hu,eh hs,Result.andThen_ok,Sem.run_ite,IU,if_false,Sem.run_pure,dy,EF,Bk];rfl
      rw[dF];obtain⟨g1,g2⟩:=hS.alloc cs.toList elem elem size eX eX.size rfl (Dg _ (by simpa using mA pH n) Dh hf) (by have:=hv.1;simp at this ⊢;omega) (by rw[hv.1,List.take_length];exact hv) (λk v hk CW=>by have:=hv.1;have:=(Array.getElem?_eq_some_iff.1 CW).1;simp at *;omega)
      refine⟨_,_,_,rfl,g1,?_,g2,(eN.refl _ _).alloc hS.base _⟩;have:=VR.slice (μ:=μ.up H.length ⟨w.heap.size,0,eX.size,size⟩) H.length 0 n n n _ Mu.aP (Nat.le_refl _) (Nat.le_refl _) (by simp[hlen])
      simpa using this
    ·cases h
   ·cases h
  ·cases h
end Go.Proofs.YtgfgglponbmgmaaGreatA.Am
end
