/- Texts of the proof of dcssPlays_holds, put together by a small program of ours (names shortened, spaces taken out). No condition beyond the given statement. -/
import Derived.Test.YtgfgglponbmgmaaGreatDCP1
set_option linter.unusedVariables false
set_option linter.unusedSimpArgs false
set_option linter.unnecessarySimpa false
noncomputable section
section
namespace Go.Proofs.YtgfgglponbmgmaaGreatA.Am
open Go.RowKit (Below)
variable {P:Program} {μ:Mu} {H H':aa} {w:World} {B:Nat}
theorem rh: ∀(d:Nat) {t:TypeId} {x y x' y':Value} {b:Bool},VR μ x x'→VR μ y y'→iq P d t x y=some b→∀w,(Op.equalIn d t x' y').run P w= .ok b w:=by
 intro d;induction d with
 |zero=>intro t x y x' y' b hx hy h;simp[iq] at h
 |succ d ih=>
  intro t x y x' y' b hx hy h w;unfold iq at h;split at h
  ·rename_i a c hu;rw[hx.bool,hy.bool];cases h;simp[Op.equalIn,run_underlying hu]
  ·rename_i k a k' c hu;rw[hx.int,hy.int];split at h
   ·rename_i e;cases h;simp[Op.equalIn,run_underlying hu,e]
   ·cases h
  ·rename_i a c hu;rw[hx.string,hy.string];cases h;simp[Op.equalIn,run_underlying hu]
  ·rename_i c hu;obtain⟨c',rfl,hn⟩:=hy.oq;rw[hx.aaf];cases h;simp[Op.equalIn,run_underlying hu,hn]
  ·rename_i a hu;obtain⟨i,off,l,rfl,hl,rfl⟩:=hx.mX;rw[hy.aaf];cases h;simp[Op.equalIn,run_underlying hu]
  ·rename_i n c a n' c' hu;obtain⟨rfl,rfl,rfl⟩:=hx.ic;obtain⟨_,a',c2,rfl,hn,_⟩:=hy.fh;cases h;simp[Op.equalIn,run_underlying hu,hn]
  ·rename_i a n c n' c' hu;obtain⟨rfl,rfl,rfl⟩:=hy.ic;obtain⟨_,a',c2,rfl,hn,_⟩:=hx.fh;cases h;cases a' with
   |none=>simp at hn
   |some a'=>simp[Op.equalIn,run_underlying hu]
  ·rename_i hu;rw[hx.nilFunc,hy.nilFunc];cases h;simp[Op.equalIn,run_underlying hu]
  ·rename_i hu;obtain⟨fn',f',c',rfl⟩:=hy.qV;rw[hx.nilFunc];cases h;simp[Op.equalIn,run_underlying hu]
  ·rename_i hu;obtain⟨fn',f',c',rfl⟩:=hx.qV;rw[hy.nilFunc];cases h;simp[Op.equalIn,run_underlying hu]
  ·rename_i fields xs ys hu;obtain⟨xs',rfl,hxs⟩:=hx.oZ;obtain⟨ys',rfl,hys⟩:=hy.oZ;split at h
   ·cases h
   ·rename_i hs;have UN:P.stoodInHeld t=false:=by simpa using hs
    have key: ∀(l:List Field),eqFields P (iq P d) xs ys l=some b→(forIn (m:=Sem) l ((none:Option Bool),()) λf __s=>
      if f.name= "_" then pure (ForInStep.yield (none,()))
      else do
       let u ←part f.type xs' f.offset
       let v ←part f.type ys' f.offset
       let e ←Op.equalIn d f.type u v
       if e=false then pure (ForInStep.done (some false,())) else pure (ForInStep.yield (none,()))).run P w= .ok (if b then(none,()) else(some false,())) w:=by
     intro l;induction l with
     |nil=>intro hb;simp only[eqFields] at hb;cases hb;rfl
     |cons f r Q7=>
      intro hb;simp only[eqFields] at hb;rw[List.forIn_cons];by_cases hn:f.name= "_"
      ·rw[if_pos hn] at hb;simp only[hn,if_true,Sem.run_bind,Sem.run_pure,Result.andThen_ok];exact Q7 hb
      ·rw[if_neg hn] at hb;cases ND:apart P f.type xs f.offset with
       |none=>simp only[ND] at hb;cases hb
       |some u=>
        cases Wc:apart P f.type ys f.offset with
        |none=>simp only[ND,Wc] at hb;cases hb
        |some v=>
         simp only[ND,Wc] at hb;obtain⟨u',ru,vu⟩:=lN hxs ND w;obtain⟨v',rv,vv⟩:=lN hys Wc w;cases he:iq P d f.type u v with
         |none=>rw[he] at hb;cases hb
         |some e=>
          have hr:=ih vu vv he w;rw[he] at hb;cases e with
          |false=>
           cases hb;simp[hn,ru,rv,hr]
          |true=>
           simp only[hn,if_false,Sem.run_bind,ru,rv,hr,Result.andThen_ok,Bool.true_eq_false,Sem.run_pure];exact Q7 hb
    have k:=key fields.toList h;simp[Op.equalIn,run_underlying hu,UN];rw[←Array.forIn_toList,k];cases b<;>simp
  ·cases h
theorem BH {op:BinOp}{k:IntKind}{a b:Int}{v:Value}(hs:op≠ .shl∧op≠ .shr)(h:FC op k a b=some v)(t:TypeId)(w:World):
  (binOp op t (.int k a) (.int k b)).run P w= .ok v w∧cu v=true:=by
 cases op<;>simp only[FC] at h<;>first
  | (exact absurd rfl hs.1)| (exact absurd rfl hs.2)
  | (cases h;exact⟨by simp[binOp,Op.intArith,Op.intCmp,Op.intBits,bits],rfl⟩)
  | (
   split at h
   ·cases h
   ·rename_i hb;cases h;exact⟨by simp[binOp,Op.intDiv,hb],rfl⟩)
theorem ri {op:BinOp}{k k':IntKind}{a b:Int}{v:Value}(hs:op= .shl∨op= .shr)(h:qj op k a b=some v)(t:TypeId)(w:World):
  (binOp op t (.int k a) (.int k' b)).run P w= .ok v w∧cu v=true:=by
 unfold qj at h;split at h
 ·cases h
 ·rename_i hb;rcases hs with rfl|rfl<;>(simp only at h;cases h;exact⟨by simp[binOp,Op.shift,hb],rfl⟩)
theorem FH {op:BinOp}{a b:ByteArray}{v:Value}(h:V9 op a b=some v)(t:TypeId)(w:World):
  (binOp op t (.string a) (.string b)).run P w= .ok v w∧cu v=true:=by
 cases op<;>simp only[V9,qS] at h<;>first
  | (cases h;exact⟨by simp[binOp,Op.stringOp],rfl⟩)
  | (cases h)
theorem fU {op:BinOp}{t:TypeId}{ox oy:Operand}{x y:Value}(h1:x≠ .nilIface)(h2: ∀c,x≠ .agg c)(w:World):
  (eqGuard op t ox oy x y).run P w= .ok () w:=by
 by_cases vp:op= .eql∨op= .neq
 ·rcases vp with rfl|rfl<;>(cases x<;>first|rfl| (exact absurd rfl h1)| (exact absurd rfl (h2 _)))
 ·cases op<;>first|rfl| (exact absurd (.inl rfl) vp)| (exact absurd (.inr rfl) vp)
theorem J4 {op:BinOp}{t:TypeId}{ox oy:Operand}{x y:Array Value}(h:P.eqGuardType P.depth t=false)(w:World):
  (eqGuard op t ox oy (.agg x) (.agg y)).run P w= .ok () w:=by
 by_cases vp:op= .eql∨op= .neq
 ·rcases vp with rfl|rfl<;>simp[eqGuard,h]
 ·cases op<;>first|rfl| (exact absurd (.inl rfl) vp)| (exact absurd (.inr rfl) vp)
theorem FI {op:BinOp}{t:TypeId}{x y x' y' v:Value}(hx:VR μ x x')(hy:VR μ y y')(h:ai P op t x y=some v)(ox oy:Operand)(w:World):
  (do eqGuard op t ox oy x' y';binOp op t x' y').run P w= .ok v w∧cu v=true:=by
 have wF: ∀{op:BinOp} {x y:Value},VR μ x x'→VR μ y y'→
   (match op with| .eql=>(iq P Op.maxDepth t x y).map Value.bool| .neq=>(iq P Op.maxDepth t x y).map λb=>Value.bool (!b)|_=>none)=some v→
   (∀w,(binOp .eql t x' y').run P w=(do pure (Value.bool (←Op.equal t x' y')):Sem Value).run P w)→
   (∀w,(binOp .neq t x' y').run P w=(do pure (Value.bool (!(←Op.equal t x' y'))):Sem Value).run P w)→(binOp op t x' y').run P w= .ok v w∧cu v=true:=by
  intro op x y hx hy h e1 e2;split at h
  ·rw[Option.map_eq_some_iff] at h;obtain⟨b,hb,rfl⟩:=h;rw[e1];exact⟨by simp[Op.equal,rh _ hx hy hb w],rfl⟩
  ·rw[Option.map_eq_some_iff] at h;obtain⟨b,hb,rfl⟩:=h;rw[e2];exact⟨by simp[Op.equal,rh _ hx hy hb w],rfl⟩
  ·cases h
 unfold ai at h;split at h
 ·rename_i k a k' b;obtain rfl:=hx.int;obtain rfl:=hy.int;simp only[Sem.run_bind,fU (P:=P) (op:=op) (t:=t) (ox:=ox) (oy:=oy) (x:=.int k a) (y:=.int k' b) (by simp) (by simp) w,Result.andThen_ok]
  split at h
  ·exact ri (.inl rfl) h t w
  ·exact ri (.inr rfl) h t w
  ·rename_i n1 n2;split at h
   ·rename_i e;subst e;exact BH ⟨λe=>n1 e,λe=>n2 e⟩ h t w
   ·cases h
 ·rename_i a b;obtain rfl:=hx.string;obtain rfl:=hy.string;simp only[Sem.run_bind,fU (P:=P) (op:=op) (t:=t) (ox:=ox) (oy:=oy) (x:=.string a) (y:=.string b) (by simp) (by simp) w,Result.andThen_ok]
  exact FH h t w
 ·obtain⟨a',rfl,ha⟩:=hx.oZ;obtain⟨b',rfl,hb⟩:=hy.oZ;split at h
  ·cases h
  ·rename_i hg;simp only[Sem.run_bind,J4 (P:=P) (op:=op) (t:=t) (ox:=ox) (oy:=oy) (x:=a') (y:=b') (by simpa using hg) w,Result.andThen_ok]
   exact wF hx hy h (λ_=>rfl) (λ_=>rfl)
 ·obtain rfl:=hx.bool;obtain rfl:=hy.bool;simp only[Sem.run_bind,fU (P:=P) (op:=op) (t:=t) (ox:=ox) (oy:=oy) (x:=.bool _) (y:=.bool _) (by simp) (by simp) w,Result.andThen_ok]
  exact wF hx hy h (λ_=>rfl) (λ_=>rfl)
 ·obtain⟨a',rfl,_⟩:=hx.oq;obtain⟨b',rfl,_⟩:=hy.oq;simp only[Sem.run_bind,fU (P:=P) (op:=op) (t:=t) (ox:=ox) (oy:=oy) (x:=.pointer a') (y:=.pointer b') (by simp) (by simp) w,Result.andThen_ok]
  exact wF hx hy h (λ_=>rfl) (λ_=>rfl)
 ·obtain⟨_,a',c',rfl,_⟩:=hx.fh;obtain⟨_,b',d',rfl,_⟩:=hy.fh;simp only[Sem.run_bind,fU (P:=P) (op:=op) (t:=t) (ox:=ox) (oy:=oy) (x:=.slice a' _ c') (y:=.slice b' _ d') (by simp) (by simp) w,Result.andThen_ok]
  exact wF hx hy h (λ_=>rfl) (λ_=>rfl)
 ·obtain rfl:=hx.nilFunc;obtain rfl:=hy.nilFunc;simp only[Sem.run_bind,fU (P:=P) (op:=op) (t:=t) (ox:=ox) (oy:=oy) (x:=.nilFunc) (y:=.nilFunc) (by simp) (by simp) w,Result.andThen_ok]
  exact wF hx hy h (λ_=>rfl) (λ_=>rfl)
 ·obtain rfl:=hx.nilFunc;obtain⟨fn',f',c',rfl⟩:=hy.qV;simp only[Sem.run_bind,fU (P:=P) (op:=op) (t:=t) (ox:=ox) (oy:=oy) (x:=.nilFunc) (y:=.func _ f' c') (by simp) (by simp) w,Result.andThen_ok]
  exact wF hx hy h (λ_=>rfl) (λ_=>rfl)
 ·obtain rfl:=hy.nilFunc;obtain⟨fn',f',c',rfl⟩:=hx.qV;simp only[Sem.run_bind,fU (P:=P) (op:=op) (t:=t) (ox:=ox) (oy:=oy) (x:=.func _ f' c') (y:=.nilFunc) (by simp) (by simp) w,Result.andThen_ok]
  exact wF hx hy h (λ_=>rfl) (λ_=>rfl)
 ·cases h
theorem J5 {op:UnOp}{x x' v:Value}(hx:VR μ x x')(h:ik op x=some v)(w:World):(Op.unary op x').run P w= .ok v w∧cu v=true:=by
 unfold ik at h;split at h
 ·obtain rfl:=hx.int;cases h;exact⟨by simp[Op.unary,Op.intArith],rfl⟩
 ·obtain rfl:=hx.bool;cases h;exact⟨by simp[Op.unary],rfl⟩
 ·cases h
variable {P:Program} {μ:Mu} {H H':aa} {w:World} {B:Nat}
theorem jM {v v':Value}{n:Int}(hv:VR μ v v')(h:qk v=some n): ∃k,v'= .int k n:=by
 unfold qk at h;split at h
 ·rename_i k m;cases h;exact⟨k,hv.int⟩
 ·cases h
theorem jN {k:IntKind}{n:Int}{y:Nat}{c:BoundsCode}(h0:0≤n)(h:n≤y)(w:World):(Instr.sliceBound (.int k n) y c).run P w= .ok n.toNat w:=by
 simp[Instr.sliceBound,asIntOf,h0,h]
def Nk (μ:Mu)(x x':Option Value):Prop:=(x=none∧x'=none)∨∃a a',x=some a∧x'=some a'∧VR μ a a'
theorem wG {len cap fj:Nat}{lo hi Q8 qt:Option Value}{h l:Int}(J6:Nk μ lo Q8)(J7:Nk μ hi qt)(hh:di len hi=some h)(hl:di 0 lo=some l)(hb:0≤h∧h≤cap∧0≤l∧l≤h)(hc:cap≤fj)(w:World):(Instr.sliceBounds true len fj Q8 qt none).run P w= .ok (l.toNat,h.toNat,fj) w:=by
 rcases J7 with⟨rfl,rfl⟩|⟨a,a',rfl,rfl,r⟩<;>rcases J6 with⟨rfl,rfl⟩|⟨b,b',rfl,rfl,r2⟩
 ·simp only[di] at hh hl;cases hh;cases hl;simp[Instr.sliceBounds]
 ·simp only[di] at hh hl;cases hh;obtain⟨k,rfl⟩:=jM r2 hl;have:=jN (P:=P) (k:=k) (y:=len) (c:=.sliceB) hb.2.2.1 hb.2.2.2 w
  simp[Instr.sliceBounds,this]
 ·simp only[di] at hh hl;cases hl;obtain⟨k,rfl⟩:=jM r hh;have:=jN (P:=P) (k:=k) (y:=fj) (c:=.sliceAcap) hb.1 (by omega) w
  simp[Instr.sliceBounds,this]
 ·obtain⟨k,rfl⟩:=jM r hh;obtain⟨k2,rfl⟩:=jM r2 hl;have h1:=jN (P:=P) (k:=k) (y:=fj) (c:=.sliceAcap) hb.1 (by omega) w
  have h2:=jN (P:=P) (k:=k2) (n:=l) (y:=h.toNat) (c:=.sliceB) hb.2.2.1 (by omega) w
  simp[Instr.sliceBounds,h1,h2]
theorem rj {t:TypeId}{x x' v:Value}{lo hi Q8 qt:Option Value}(hS:cO P μ H w B)(hx:VR μ x x')(J6:Nk μ lo Q8)(J7:Nk μ hi qt)(h:oh P H t x lo hi=some v):
  ∃v',(Instr.sliceAt t x' Q8 qt none).run P w= .ok v' w∧VR μ v v':=by
 unfold oh at h;split at h
 ·rename_i elem a len cap hu;cases hz:jK P elem with
  |none=>rw[hz] at h;cases h
  |some size=>
   rw[hz] at h;simp only at h;obtain⟨Dw,a',fj,rfl,FJ,hcc⟩:=hx.fh;split at h
   ·rename_i h' l hh hl;split at h
    ·rename_i hb;have dI:(Instr.sliceAt t (.slice a' len fj) Q8 qt none).run P w= .ok (.slice (if fj=l.toNat then a' else a'.map (·.add (l.toNat*size))) (h'.toNat-l.toNat) (fj-l.toNat)) w:=by
      simp[Instr.sliceAt,Instr.slice,run_underlying hu,wG J6 J7 hh hl hb hcc,eC hz]
     refine⟨_,dI,?_⟩;obtain⟨h0,hc,l0,lh⟩:=hb;cases a with
     |none=>
      obtain⟨rfl,rfl,e2⟩:=hx.ic;cases e2;cases h;have e1:h'=0:=by omega
      have e3:l=0:=by omega
      subst e1;subst e3;simp;exact .plain _ rfl
     |some ad=>
      rcases hx.eM with⟨i,off,c2,lc,rfl,DK,g1,g2,g3,e2⟩|⟨i,off,a2,rfl,rfl,rfl,e2⟩
      ·cases e2;simp only at h;have Wd:(if cap=0 then some (Value.slice (some ⟨i,off,none⟩) 0 0) else none)=some v→VR μ v (.slice (if fj=l.toNat then some ⟨lc.b,lc.o+off,none⟩ else(some ⟨lc.b,lc.o+off,none⟩:Option Addr).map (·.add (l.toNat*size))) (h'.toNat-l.toNat) (fj-l.toNat)):=by
        intro h;split at h
        case isFalse=>cases h
        rename_i hc0;cases h;have e1:h'=0:=by omega
        have e3:l=0:=by omega
        subst e1;subst e3;by_cases hc':fj=0
        ·subst hc';simp;exact .mi _ _ _
        ·simp[hc',jh];exact .slice i off 0 0 fj lc DK (by omega) (by omega) g3
       cases hb:H.get i with
       |none=>rw[hb] at h;exact Wd h
       |some b=>
        rw[hb] at h;simp only at h;split at h
        case isFalse=>exact Wd h
        ·rename_i hes;cases h;obtain⟨m,hm,k⟩:=hS.ok i b hb;rw[DK] at hm;cases hm;have We:lc.es=size:=k.es.trans hes;by_cases DL:fj=l.toNat
         ·rw[if_pos DL];have e1:h'.toNat-l.toNat=0:=by omega
          have e2:cap-l.toNat=0:=by omega
          have e3:fj-l.toNat=0:=by omega
          rw[e1,e2,e3];exact .mi _ _ _
         ·rw[if_neg DL];simp only[Option.map_some,jh,Nat.add_assoc];refine .slice i (off+l.toNat*size) (h'.toNat-l.toNat) (cap-l.toNat) (fj-l.toNat) lc DK (by omega) (by omega) ?_
          rw[We] at g3 ⊢;have:fj*size=l.toNat*size+(fj-l.toNat)*size:=by rw[←Nat.add_mul];congr 1;omega
          omega
      ·cases e2;have e1:h'=0:=by omega
       have e3:l=0:=by omega
       subst e1;subst e3;have hv:v= .slice (some ⟨i,off,none⟩) 0 0:=by
        simp only at h;cases hb:H.get i with
        |none=>rw[hb] at h;simpa using h.symm
        |some b=>
         rw[hb] at h;simp only at h;split at h<;>simpa using h.symm
       subst hv;simp;exact .mi _ _ _
    ·cases h
   ·cases h
 ·cases h
theorem AF (z:List Value): ∀(n i:Nat),i<n*z.length→(bM z n)[i]? =z[i%z.length]?
 |0,i,h=>by simp at h
 |n+1,i,h=>by
  have e:bM z (n+1)=z++bM z n:=by simp[bM,List.replicate_succ]
  rw[e,List.getElem?_append];split
  ·rename_i gF;rw[Nat.mod_eq_of_lt gF]
  ·rename_i hge;have hl:(n+1)*z.length=n*z.length+z.length:=Nat.succ_mul _ _;rw[AF z n (i-z.length) (by omega)]
   have:i%z.length=(i-z.length)%z.length:=by rw[Nat.mod_eq_sub_mod (by omega)]
   rw[this]
theorem fm (z:List Value)(n:Nat):(bM z n).length=n*z.length:=by
 induction n with
 |zero=>simp[bM]
 |succ n ih=>
  have e:bM z (n+1)=z++bM z n:=by simp[bM,List.replicate_succ]
  rw[e,List.length_append,ih,Nat.succ_mul];omega
theorem mH (z:Array Value)(n:Nat)(hz:z.size≠0):((Array.range (n*z.size)).map (λi=>z[i%z.size]!)).toList=bM z.toList n:=by
 apply List.ext_getElem?;intro i;by_cases h:i<n*z.size
 ·rw[AF _ _ _ (by simpa using h)]
  have hm:i%z.size<z.size:=Nat.mod_lt _ (by omega)
  simp[h,hm]
 ·rw[List.getElem?_eq_none (by simp;omega),List.getElem?_eq_none (by rw[fm];simp;omega)]
theorem mo (z:Array Value)(n:Nat)(hz:z.size≠0):(Builtin.zeroCells z n).toList=bM z.toList n:=mH z n hz
theorem jY {z:Value}(h:fO z=true):cU μ z.cells.toList z.cells.toList:=by
 have hv:VR μ z z:=.closed h;refine cU.cells hv ?_;cases z<;>simp[fO,cu] at h<;>rfl
theorem kM {z:Value}(h:fO z=true)(n:Nat):cU μ (bM z.cells.toList n) (bM z.cells.toList n):=by
 induction n with
 |zero=>exact .nil
 |succ n ih=>
  have e: ∀l:List Value,bM l (n+1)=l++bM l n:=by intro l;simp[bM,List.replicate_succ]
  rw[e];exact(jY h).append ih
theorem AG {v:Value}(h:cu v=true):aC v=true:=by cases v<;>first|rfl| (simp[cu] at h)
theorem qu {z:Value}(h:fO z=true):z.cells.toList.all aC=true:=by
 cases z with
 |agg cs=>
  simp only[fO,List.all_eq_true] at h;simp only[Value.cells,List.all_eq_true];exact λx hx=>AG (h x hx)
 |_=>simp only[Value.cells];simp;exact AG h
theorem mI {z:Value}(h:fO z=true)(n:Nat):(bM z.cells.toList n).all aC=true:=by
 induction n with
 |zero=>rfl
 |succ n ih=>
  have e: ∀l:List Value,bM l (n+1)=l++bM l n:=by intro l;simp[bM,List.replicate_succ]
  rw[e,List.all_append,qu h,ih];rfl
def Told (P:Program)(μ:Mu)(v:Value)(H':aa)(w:World)(B:Nat)(r:Result Value):Prop:=
 ∃v' μ' w',r= .ok v' w'∧μ.le μ'∧VR μ' v v'∧cO P μ' H' w' B∧eW B w w'
theorem Told.same {v v':Value}(hS:cO P μ H w B)(hv:VR μ v v'):Told P μ v H w B (.ok v' w):=⟨v',μ,w,rfl,μ.le_refl,hv,hS,eW.refl _ _⟩
theorem rk {t t':TypeId}{cs:List Value}{fi:Array Value}(hS:cO P μ H w B)(Rq:cs.all aC=true)(h:cU μ cs fi.toList):
  Told P μ (aS H t 1 cs).1 (aS H t 1 cs).2 w B ((do pure (.pointer (some (←newRow t' fi))):Sem Value).run P w):=by
 obtain⟨h1,h2⟩:=hS.alloc cs t' t 1 fi fi.size rfl Rq (by have:=h.1;simp at this;omega) (by rw[h.1,List.take_length];exact h) (λk v hk hv=>by have:=h.1;have:=(Array.getElem?_eq_some_iff.1 hv).1;simp at *;omega)
 refine⟨.pointer (some ⟨w.heap.size,0,none⟩),_,w.alloc (.cells fi t'),rfl,h1,?_,h2,(eW.refl _ _).alloc hS.base _⟩;have:=VR.ptr (μ:=μ.up H.length ⟨w.heap.size,0,fi.size,1⟩) H.length 0 _ Mu.aO
 simpa[aS] using this
theorem td {t:TypeId}{l c l' c' v:Value}(hS:cO P μ H w B)(hl:VR μ l l')(hc:VR μ c c')(h:fZ P t l c H=some (v,H')):
  Told P μ v H' w B ((Instr.makeSlice t l' c').run P w):=by
 unfold fZ at h;split at h
 ·rename_i elem k a k' b hu;obtain rfl:=hl.int;obtain rfl:=hc.int;split at h
  ·rename_i size bytes z hz hb hzv;split at h
   ·rename_i pR;obtain⟨h0,hab,aag,wH,HI⟩:=pR;cases h;obtain⟨i,hi,hib⟩:=qp hb;obtain⟨_,pD,n,hn,BI⟩:=dS hzv w;rw[hz] at hn;cases hn;have w1:IntKind.i64.wrap a=a:=by rw[IntKind.wrap_i64];omega
    have w2:IntKind.i64.wrap b=b:=by rw[IntKind.wrap_i64];omega
    have uS:(0:Nat)<size:=by omega
    have dx:b.toNat*size=0↔b.toNat=0:=by simp[Nat.mul_eq_zero];omega
    have hmul:(i.bytes:Int)*b≤17592186044416:=by
     have h1:(i.bytes:Int)≤4096:=by omega
     have h2:0≤b:=by omega
     calc (i.bytes:Int)*b≤4096*b:=Int.mul_le_mul_of_nonneg_right h1 h2
      _≤17592186044416:=by omega
    have q8: ∃fi:Array Value,fi.toList=bM z.cells.toList b.toNat∧(Instr.makeSlice t (.int k a) (.int k' b)).run P w= .ok (.slice (some ⟨w.heap.size,0,none⟩) a.toNat b.toNat) (w.alloc (.cells fi elem)):=by
     have Wf: ¬(b<0∨(281474976710656:Int)<(i.bytes:Int)*b):=by omega
     by_cases hb0:b.toNat=0
     ·refine⟨(Array.range 0).map (λ_=>default),by simp[hb0,bM],?_⟩
      have:b=0:=by omega
      subst this;have:a=0:=by omega
      subst this;simp[Instr.makeSlice,run_underlying hu,asInt,asIntOf,kU hi,IntKind.wrap_i64,eC hz,newRow]
     ·refine⟨(Array.range (b.toNat*size)).map (λi=>z.cells[i%z.cells.size]!),by rw[←mH _ _ (by omega),BI],?_⟩
      have hbl: ¬(a<0∨b<a):=by omega
      simp[Instr.makeSlice,run_underlying hu,asInt,asIntOf,kU hi,w1,w2,eC hz,newRow,(dS hzv _).1];rw[if_neg (by rintro(((h|h)|h)|h)<;>omega),if_neg (λe=>hb0 (dx.1 e))]
    obtain⟨fi,e,dI⟩:=q8;rw[dI];have hlen:fi.size=b.toNat*size:=by
     have:=congrArg List.length e
     rw[fm] at this;simp at this;rw[this,BI]
    obtain⟨h1,h2⟩:=hS.alloc (bM z.cells.toList b.toNat) elem elem size fi fi.size rfl (mI pD _) (by rw[←e];simp) (by rw[←e,List.take_length,e];exact kM pD _) (λk v hk hv=>by have:=(Array.getElem?_eq_some_iff.1 hv).1;rw[←e] at hk;simp at hk;omega)
    refine⟨_,_,_,rfl,h1,?_,h2,(eW.refl _ _).alloc hS.base _⟩;have:=VR.slice (μ:=μ.up H.length ⟨w.heap.size,0,fi.size,size⟩) H.length 0 a.toNat b.toNat b.toNat _ Mu.aO (by omega) (Nat.le_refl _) (by simp[hlen])
    simpa using this
   ·cases h
  ·cases h
 ·cases h
theorem NF {c c':List Value}(hc:cU μ c c')(off:Nat): ∀(k:Nat) {cs fi:Array Value},cU μ cs.toList fi.toList→
  cU μ ((c.zipIdx k).foldl (λcs (x:Value×Nat)=>cs.setIfInBounds (off+x.2) x.1) cs).toList ((c'.zipIdx k).foldl (λcs (x:Value×Nat)=>cs.setIfInBounds (off+x.2) x.1) fi).toList:=by
 induction c generalizing c' with
 |nil=>intro k cs fi h;rw[hc.ia];exact h
 |cons a r ih=>
  intro k cs fi h;obtain⟨b,y,rfl,h1,h2⟩:=hc.fG;simp only[List.zipIdx_cons,List.foldl_cons];refine ih h2 (k+1) ?_;simp only[Array.toList_setIfInBounds];exact h.set h1 _
theorem mY (place:Nat→Option (Nat×Nat)): ∀{ps zN:List (Nat×Value)} {cs fi:Array Value} {r:Array Value},cU μ cs.toList fi.toList→
  ps.map (·.1)=zN.map (·.1)→cU μ (ps.map (·.2)) (zN.map (·.2))→ps.all (λp=>known p.2)=true→Instr.fill place cs ps=some r→
  ∃r',Instr.fill place fi zN=some r'∧cU μ r.toList r'.toList:=by
 intro ps;induction ps with
 |nil=>
  intro zN cs fi r hc h1 h2 hk h;cases zN with
  |nil=>simp only[Instr.fill] at h ⊢;cases h;exact⟨_,rfl,hc⟩
  |cons=>simp at h1
 |cons p ps ih=>
  intro zN cs fi r hc h1 h2 hk h;cases zN with
  |nil=>simp at h1
  |cons p' zN=>
   obtain⟨i,v⟩:=p;obtain⟨i',v'⟩:=p';simp only[List.map_cons,List.cons.injEq] at h1 h2;obtain⟨rfl,h1⟩:=h1;obtain⟨b,y,e,r1,r2⟩:=h2.fG;cases e;simp only[List.all_cons,Bool.and_eq_true] at hk;have rb:=cU.cells r1 hk.1;have NG:v.cells.size=v'.cells.size:=by simpa using rb.1
   have Wg:cs.size=fi.size:=by simpa using hc.1
   simp only[Instr.fill] at h ⊢;cases hp:place i with
   |none=>rw[hp] at h;cases h
   |some q=>
    obtain⟨off,size⟩:=q;rw[hp] at h;simp only at h ⊢;rw[←NG, ←Wg];split at h
    ·cases h
    ·rename_i pR;rw[if_neg pR];refine ih ?_ h1 r2 hk.2 h;have:=NF rb off 0 hc
     rw[←Array.foldl_toList, ←Array.foldl_toList,Array.toList_zipIdx,Array.toList_zipIdx];exact this
theorem AH (place:Nat→Option (Nat×Nat)): ∀{ps:List (Nat×Value)} {cs r:Array Value},Instr.fill place cs ps=some r→r.size=cs.size:=by
 intro ps;induction ps with
 |nil=>intro cs r h;simp only[Instr.fill] at h;cases h;rfl
 |cons p ps ih=>
  intro cs r h;obtain⟨i,v⟩:=p;simp only[Instr.fill] at h;cases hp:place i with
  |none=>rw[hp] at h;cases h
  |some q=>
   obtain⟨off,size⟩:=q;rw[hp] at h;simp only at h;split at h
   ·cases h
   ·rename_i hc;rw[ih h, ←Array.foldl_toList];generalize v.cells.zipIdx.toList=l
    clear h ih hc;induction l generalizing cs with
    |nil=>rfl
    |cons a l Q7=>rw[List.foldl_cons,Q7];simp
theorem DM (place:Nat→Option (Nat×Nat)): ∀{ps:List (Nat×Value)} {cs r:Array Value},cs.toList.all aC=true→ps.all (λp=>p.2.cells.toList.all aC)=true→Instr.fill place cs ps=some r→r.toList.all aC=true:=by
 intro ps;induction ps with
 |nil=>intro cs r hc _ h;simp only[Instr.fill] at h;cases h;exact hc
 |cons p ps ih=>
  intro cs r hc hk h;obtain⟨i,v⟩:=p;simp only[List.all_cons,Bool.and_eq_true] at hk;simp only[Instr.fill] at h;cases hp:place i with
  |none=>rw[hp] at h;cases h
  |some q=>
   obtain⟨off,size⟩:=q;rw[hp] at h;simp only at h;split at h
   ·cases h
   ·refine ih ?_ hk.2 h;rw[←Array.foldl_toList,Array.toList_zipIdx];have key: ∀(l:List Value) (k:Nat) (cs:Array Value),l.all aC=true→cs.toList.all aC=true→
      ((l.zipIdx k).foldl (λcs (x:Value×Nat)=>cs.setIfInBounds (off+x.2) x.1) cs).toList.all aC=true:=by
     intro l;induction l with
     |nil=>intro k cs _ h;exact h
     |cons a l Q7=>
      intro k cs ha rb;simp only[List.all_cons,Bool.and_eq_true] at ha;simp only[List.zipIdx_cons,List.foldl_cons];refine Q7 _ _ ha.2 ?_;rw[List.all_eq_true] at rb ⊢;intro x hx;simp only[Array.toList_setIfInBounds] at hx;rcases List.mem_or_eq_of_mem_set hx with hx|rfl
      ·exact rb x hx
      ·exact ha.1
    exact key _ 0 _ hk.1 hc
theorem FK {fields:Array Field}{pl:Array (Nat×Nat)}(h:placesOf P fields=some pl)(w:World):
  (fields.mapM λ(f:Field)=>do pure (f.offset, ←sizeOf f.type):Sem (Array (Nat×Nat))).run P w= .ok pl w:=by
 unfold placesOf at h;rw[Option.map_eq_some_iff] at h;obtain⟨l,hl,rfl⟩:=h;rw[Array.mapM_eq_mapM_toList];have: ∀(fs:List Field) (l:List (Nat×Nat)),(fs.mapM λf=>(jK P f.type).map λn=>(f.offset,n))=some l→
   (fs.mapM λ(f:Field)=>do pure (f.offset, ←sizeOf f.type):Sem (List (Nat×Nat))).run P w= .ok l w:=by
  intro fs;induction fs with
  |nil=>intro l h;simp at h;subst h;rfl
  |cons f r ih=>
   intro l h;rw[List.mapM_cons] at h;simp only[Option.bind_eq_bind,Option.bind_eq_some_iff,Option.map_eq_some_iff] at h;obtain⟨q,⟨n,hn,rfl⟩,l2,DK,e⟩:=h;cases e;rw[List.mapM_cons];simp only[Sem.run_bind,eC hn,Result.andThen_ok,Sem.run_pure,ih l2 DK]
 simp only[Sem.run_map,this _ _ hl,Result.andThen_ok]
theorem BJ {t:TypeId}{ps zN:List (Nat×Value)}{v:Value}(h1:ps.map (·.1)=zN.map (·.1))(h2:cU μ (ps.map (·.2)) (zN.map (·.2)))(h:aE P t ps=some v)(w:World):
  ∃v',(Instr.build t zN.toArray).run P w= .ok v' w∧VR μ v v':=by
 unfold aE at h;split at h
 ·cases h
 ·rename_i hk;have hk:ps.all (λp=>known p.2)=true:=by simpa using hk
  split at h
  ·rename_i z fields hz hu;cases hp:placesOf P fields with
   |none=>rw[hp] at h;cases h
   |some pl=>
    rw[hp] at h;simp only[Option.map_eq_some_iff] at h;obtain⟨r,hr,rfl⟩:=h;obtain⟨Fw,pD,_⟩:=dS hz w;obtain⟨r',Wh,hv⟩:=mY _ (jY pD) h1 h2 hk hr;refine⟨.agg r',?_,hv.agg⟩;have hpl:=FK hp w;simp only[Instr.build,Sem.run_bind,Fw,Result.andThen_ok,run_underlying hu,hpl];simp[Wh]
  ·rename_i z n elem hz hu;cases hs:jK P elem with
   |none=>rw[hs] at h;cases h
   |some size=>
    rw[hs] at h;simp only[Option.map_eq_some_iff] at h;obtain⟨r,hr,rfl⟩:=h;obtain⟨Fw,pD,_⟩:=dS hz w;obtain⟨r',Wh,hv⟩:=mY _ (jY pD) h1 h2 hk hr;refine⟨.agg r',?_,hv.agg⟩;simp only[Instr.build,Sem.run_bind,Fw,Result.andThen_ok,run_underlying hu,eC hs];simp[Wh]
  ·cases h
theorem rl {t:TypeId}{n:Nat}{ps zN:List (Nat×Value)}{v:Value}(hS:cO P μ H w B)(h1:ps.map (·.1)=zN.map (·.1))(h2:cU μ (ps.map (·.2)) (zN.map (·.2)))(h:ay P t n ps H=some (v,H')):Told P μ v H' w B ((Instr.buildSlice t n zN.toArray).run P w):=by
 unfold ay at h;split at h
 ·cases h
 ·rename_i hk;have DN:ps.all (λp=>p.2.cells.toList.all aC)=true:=by simpa using hk
  have hk:ps.all (λp=>known p.2)=true:=by
   rw[List.all_eq_true] at DN ⊢;intro p hp;have:=DN p hp
   revert this
   cases p.2<;>simp[Value.cells,aC,known]
  split at h
  ·rename_i elem hu;split at h
   ·rename_i size z hs hz;split at h
    ·rename_i hc;simp only[Bool.and_eq_true,decide_eq_true_eq,ne_eq] at hc;obtain⟨wI,uS⟩:=hc;obtain⟨Fw,pD,m,hm,BI⟩:=dS hz w;rw[hs] at hm;cases hm;cases hf:Instr.fill (λi=>some (i*size,size)) (bM z.cells.toList n).toArray ps with
     |none=>rw[hf] at h;cases h
     |some cs=>
      rw[hf] at h;cases h;obtain⟨fi,zV,hv⟩:=mY (fi:=(bM z.cells.toList n).toArray) _ (by simpa using kM pD n) h1 h2 hk hf
      have hlen:fi.size=n*size:=by
       rw[AH _ zV];simp[fm,BI]
      have dI:(Instr.buildSlice t n zN.toArray).run P w= .ok (.slice (some ⟨w.heap.size,0,none⟩) n n) (w.alloc (.cells fi elem)):=by
       have acx:(0:Nat)<size:=Nat.pos_of_ne_zero (by simpa using uS)
       have J8: ¬(n*size>2^24):=by simpa using wI
       by_cases h0:n=0
       ·subst h0;have e:(bM z.cells.toList 0).toArray=(Array.range (0*size)).map (λi=>(#[]:Array Value)[i%(#[]:Array Value).size]!):=by simp[bM]
        rw[e] at zV;simp only[Instr.buildSlice,Sem.run_bind,run_underlying hu,eC hs,Result.andThen_ok,Sem.run_ite,Sem.run_pure,Nat.zero_mul,if_true];simp only[Nat.zero_mul] at zV;simp only[zV];rfl
       ·have dx: ¬n*size=0:=by simp[Nat.mul_eq_zero];omega
        have e:(bM z.cells.toList n).toArray=(Array.range (n*size)).map (λi=>z.cells[i%z.cells.size]!):=by
         rw[←mH _ _ (by omega),BI]
        rw[e] at zV;simp only[Instr.buildSlice,Sem.run_bind,run_underlying hu,eC hs,Result.andThen_ok,Sem.run_ite,J8,if_false,Sem.run_pure,dx,Fw,zV];rfl
      rw[dI];obtain⟨g1,g2⟩:=hS.alloc cs.toList elem elem size fi fi.size rfl (DM _ (by simpa using mI pD n) DN hf) (by have:=hv.1;simp at this ⊢;omega) (by rw[hv.1,List.take_length];exact hv) (λk v hk Dv=>by have:=hv.1;have:=(Array.getElem?_eq_some_iff.1 Dv).1;simp at *;omega)
      refine⟨_,_,_,rfl,g1,?_,g2,(eW.refl _ _).alloc hS.base _⟩;have:=VR.slice (μ:=μ.up H.length ⟨w.heap.size,0,fi.size,size⟩) H.length 0 n n n _ Mu.aO (Nat.le_refl _) (Nat.le_refl _) (by simp[hlen])
      simpa using this
    ·cases h
   ·cases h
  ·cases h
end Go.Proofs.YtgfgglponbmgmaaGreatA.Am
end
