/- Texts of the proof of helpLogic_holds, put together by a small program of ours (names shortened, spaces taken out). No condition beyond the given statement. -/
import Derived.Test.YtgfgglponbmgmaaGreatHLG12
import Derived.Test.YtgfgglponbmgmaaGreatHLG13
import Derived.Test.YtgfgglponbmgmaaGreatHLG16
import Derived.Test.YtgfgglponbmgmaaGreatHLG17
import Derived.Test.YtgfgglponbmgmaaGreatHLG9
import Derived.Test.YtgfgglponbmgmaaGreatHLG19
import Derived.Test.YtgfgglponbmgmaaGreatHLG11
import Derived.Test.YtgfgglponbmgmaaGreatHLG15
import Derived.Test.YtgfgglponbmgmaaGreatHLG14
set_option linter.unusedVariables false
set_option linter.unusedSimpArgs false
set_option linter.unnecessarySimpa false
noncomputable section
section
namespace Go.Proofs.YtgfgglponbmgmaaGreat.Fun
open Go Go.RowKit Go.Proofs.YtgfgglponbmgmaaGreatA.Am
set_option maxRecDepth 10000
section
variable {G:ae} {H H':aa} {o o':aj} {p m:Nat} {K:aa→aj→Prop}
def bJ (ps:List Int)(K:aa→aj→Prop):Prop:=∀H o H' o',K H o→Fr H o H' o' ps→K H' o'
theorem bJ.of {ps qs:List Int}(h:bJ qs K)(k: ∀i∈ps,i∈qs):bJ ps K:=λH o H' o' a f=>h H o H' o' a (f.wk k)
theorem bJ.and {ps:List Int}{L:aa→aj→Prop}(h:bJ ps K)(k:bJ ps L):bJ ps λH o=>K H o∧L H o:=λH o H' o' a f=>⟨h H o H' o' a.1 f,k H o H' o' a.2 f⟩
theorem bJ.base {ps qs:List Int}{B:aa}{b:aj}(k: ∀i∈ps,i∈qs):bJ ps λH o=>Fr B b H o qs:=λH o H' o' a f=>a.trans f (λ_ h=>h) k
theorem bJ.kq {ps:List Int}{q:Int}{x:Value}{l:PL}(h:q ∉ ps):bJ ps λH o=>gN H o q x l:=λH o H' o' a f=>a.fr f h
theorem AJ:au (pv p) H=some (pv p,H):=rfl
abbrev nm (k a x y:Int)(w:Value):Value:=.agg #[cv k,cv a,cv x,cv y,w]
theorem Cr (k a x y:Int){b:Option Addr}{n c:Nat}(H:aa):dH 112 (nm k a x y (.slice b n c)) H=some (pv H.length,H.new ⟨[cv k,cv a,cv x,cv y,.slice b n c],112,1,false⟩):=by
 simp[dH,Value.cells,aD,aS]
theorem N9 (a:Int):aF Tryz.prog 112 [(0,cv 1),(1,cv a)]=some (nm 1 a 0 0 (.slice none 0 0)):=by kernel_rfl
theorem W0 (a x:Int):aF Tryz.prog 112 [(0,cv 2),(1,cv a),(2,cv x)]=some (nm 2 a x 0 (.slice none 0 0)):=by kernel_rfl
theorem W1 (a x y:Int):aF Tryz.prog 112 [(0,cv 3),(1,cv a),(2,cv x),(3,cv y)]=some (nm 3 a x y (.slice none 0 0)):=by kernel_rfl
theorem W2 (a x:Int):aF Tryz.prog 112 [(0,cv 4),(1,cv a),(2,cv x)]=some (nm 4 a x 0 (.slice none 0 0)):=by kernel_rfl
theorem W3 (b:Option Addr)(n c:Nat):aF Tryz.prog 112 [(0,cv 5),(4,.slice b n c)]=some (nm 5 0 0 0 (.slice b n c)):=by kernel_rfl
abbrev Cs (H:aa):Value→aa→Prop:=λv H'=>(∃z,v=cv z)∧H'=H
abbrev Oa (H:aa):Value→aa→Prop:=λv H'=>(∃z,v= .bool z)∧H'=H
section
variable {α:Type} {k:Nat→Value→aa→Option α} {Q:α→Prop} {t:TypeId} {a b:Int} {P:Program} {c:Nat} {C:Nat→ae} {f:Nat} {args:List Value}
theorem Ev.lss (h1:a<b→Ev (λn=>k n (.bool true) H) Q)(h2: ¬a<b→Ev (λn=>k n (.bool false) H) Q):Ev (λn=>af (pS (ai P .lss t (cv a) (cv b)) H) (k n)) Q:=by
 rw[r7];by_cases h:a<b
 ·simpa[h] using h1 h
 ·simpa[h] using h2 h
theorem Ev.gtr (h1:a>b→Ev (λn=>k n (.bool true) H) Q)(h2: ¬a>b→Ev (λn=>k n (.bool false) H) Q):Ev (λn=>af (pS (ai P .gtr t (cv a) (cv b)) H) (k n)) Q:=by
 rw[HZ];by_cases h:a>b
 ·have h':b<a:=h;simpa[h'] using h1 h
 ·have h': ¬b<a:=h;simpa[h'] using h2 h
theorem Ev.leq (h1:a≤b→Ev (λn=>k n (.bool true) H) Q)(h2: ¬a≤b→Ev (λn=>k n (.bool false) H) Q):Ev (λn=>af (pS (ai P .leq t (cv a) (cv b)) H) (k n)) Q:=by
 rw[RC];by_cases h:a≤b
 ·simpa[h] using h1 h
 ·simpa[h] using h2 h
theorem Ev.geq (h1:a≥b→Ev (λn=>k n (.bool true) H) Q)(h2: ¬a≥b→Ev (λn=>k n (.bool false) H) Q):Ev (λn=>af (pS (ai P .geq t (cv a) (cv b)) H) (k n)) Q:=by
 rw[RD];by_cases h:a≥b
 ·have h':b≤a:=h;simpa[h'] using h1 h
 ·have h': ¬b≤a:=h;simpa[h'] using h2 h
theorem Ev.eql (h1:a=b→Ev (λn=>k n (.bool true) H) Q)(h2: ¬a=b→Ev (λn=>k n (.bool false) H) Q):Ev (λn=>af (pS (ai P .eql t (cv a) (cv b)) H) (k n)) Q:=by
 rw[vC];by_cases h:a=b
 ·have e:decide (a=b)=true:=by simpa using h
  rw[e];exact h1 h
 ·have e:decide (a=b)=false:=by simpa using h
  rw[e];exact h2 h
theorem Ev.neq (h1: ¬a=b→Ev (λn=>k n (.bool true) H) Q)(h2:a=b→Ev (λn=>k n (.bool false) H) Q):Ev (λn=>af (pS (ai P .neq t (cv a) (cv b)) H) (k n)) Q:=by
 rw[Ia];by_cases h:a=b
 ·have e:decide (a=b)=true:=by simpa using h
  rw[e];exact h2 h
 ·have e:decide (a=b)=false:=by simpa using h
  rw[e];exact h1 h
theorem Ev.boo {x:Option Value}{d:Bool}(hx:x=some (.bool d))(h1:d=true→Ev (λn=>k n (.bool true) H) Q)(h2:d=false→Ev (λn=>k n (.bool false) H) Q):Ev (λn=>af (pS x H) (k n)) Q:=by
 subst hx;cases d with
 |true=>exact h1 rfl
 |false=>exact h2 rfl
theorem Ev.ke (h:aE C f args H (Cs H))(hk: ∀z,Ev (λn=>k n (cv z) H) Q):Ev (λn=>af (C n f args H) (k n)) Q:=
 Ev.call h λv H' hq=>by obtain⟨⟨z,rfl⟩,rfl⟩:=hq;exact hk z
theorem Ev.W4 (h:aE C f args H (Oa H))(hk: ∀z,Ev (λn=>k n (.bool z) H) Q):Ev (λn=>af (C n f args H) (k n)) Q:=
 Ev.call h λv H' hq=>by obtain⟨⟨z,rfl⟩,rfl⟩:=hq;exact hk z
end
theorem ach (t:TypeId)(a:Int):ai Tryz.prog .rem t (cv a) (cv 8)=some (cv (a.tmod 8)):=vD _ a 8 (by decide)
theorem aci (t:TypeId)(a:Int):ai Tryz.prog .quo t (cv a) (cv 8)=some (cv (IntKind.i64.wrap (a.tdiv 8))):=nj _ a 8 (by decide)
theorem acj (t:TypeId)(a:Int):ai Tryz.prog .quo t (cv a) (cv 4)=some (cv (IntKind.i64.wrap (a.tdiv 4))):=nj _ a 4 (by decide)
end
theorem sS:(∀(α:Type) (v:Value) (H:aa) (k:Value→aa→Option α),af (some (v,H)) k=k v H)∧(∀(v:Value) (H:aa),pS (some v) H=some (v,H))∧
  (∀(x:Option (Value×aa)) (H:aa),gd (some true) x H=x)∧(∀(x:Option (Value×aa)) (H:aa),gd (some false) x H=some (undef,H))∧
  (∀b w:Bool,ag (.bool b) w=some (b==w))∧(∀w:Bool,ag undef w=some false)∧
  (∀(α:Type) (x y:Option α),aV (.bool true) x y=x)∧(∀(α:Type) (x y:Option α),aV (.bool false) x y=y)∧
  (∀(b:Bool) (x y:Value) (H:aa),aK (.bool b) x y H=some (if b then x else y,H))∧(∀b:Bool,iG .not (.bool b)=some (.bool !b))∧
  (∀(u u1 u2:Value) (H H1 H2:aa),lr (some true) (some true) (some (u,H)) (some (u1,H1)) (some (u2,H2))=(pG u u1&&pG u u2))∧
  (∀(w:Bool) (u u1 u2:Option (Value×aa)),lr (some false) (some w) u u1 u2=true)∧(∀(w:Bool) (u u1 u2:Option (Value×aa)),lr (some w) (some false) u u1 u2=true)∧(∀(k:IntKind) (a:Int),pG (.int k a) (.int k a)=true)∧
  (∀(t:TypeId) (a b:Int),ai Tryz.prog .add t (cv a) (cv b)=some (cv (IntKind.i64.wrap (a+b))))∧(∀(t:TypeId) (a b:Int),ai Tryz.prog .sub t (cv a) (cv b)=some (cv (IntKind.i64.wrap (a-b))))∧(∀(t:TypeId) (a b:Int),ai Tryz.prog .mul t (cv a) (cv b)=some (cv (IntKind.i64.wrap (a*b))))∧
  (∀(t:TypeId) (a:Int),ai Tryz.prog .rem t (cv a) (cv 8)=some (cv (a.tmod 8)))∧(∀(t:TypeId) (a:Int),ai Tryz.prog .quo t (cv a) (cv 8)=some (cv (IntKind.i64.wrap (a.tdiv 8))))∧(∀(t:TypeId) (a:Int),ai Tryz.prog .quo t (cv a) (cv 4)=some (cv (IntKind.i64.wrap (a.tdiv 4))))∧
  (∀(off p o:Nat) (H:aa),al off (.pointer (some ⟨p,o,none⟩)) H=some (.pointer (some ⟨p,o+off,none⟩),H))∧(∀(p:Nat) (H:aa),au (pv p) H=some (pv p,H))∧
  (∀(vs:Array Value) (i:Nat) (H:aa),cg i (.tuple vs) H=(vs[i]?).map (·,H))∧(∀(α:Type) (n:Nat) (H:aa) (k:Nat→aa→Option α),sY n H k=k H.length (H.cB n))∧
  (∀(α:Type) (kb:List Value→aa→Option α) (k:bE→List Value→aa→Option α) (vs:List Value) (H:aa),dM kb k .normal vs H=kb vs H)∧
  (∀(α:Type) (kb:List Value→aa→Option α) (k:bE→List Value→aa→Option α) (i:Nat) (vs:List Value) (H:aa),dM kb k (.exit i) vs H=k (.exit i) vs H)∧
  (∀(α:Type) (kb:List Value→aa→Option α) (k:bE→List Value→aa→Option α) (vs:List Value) (H:aa),dM kb k .ret vs H=k .ret vs H)∧
  (∀(α:Type) (id:Nat) (k:bE→List Value→aa→Option α) (vs:List Value) (H:aa),dG id k .normal vs H=k .normal vs H)∧(∀(α:Type) (id:Nat) (k:bE→List Value→aa→Option α) (vs:List Value) (H:aa),dG id k .ret vs H=k .ret vs H)∧
  (∀(α:Type) (id i:Nat) (k:bE→List Value→aa→Option α) (vs:List Value) (H:aa),dG id k (.exit i) vs H=if i=id then k .normal vs H else k (.exit i) vs H)∧
  (∀(e:bE) (vs:List Value) (H:aa),fin e vs H=some (e,vs,H))∧(∀(α:Type) (e:bE) (vs:List Value) (H:aa) (k:bE→List Value→aa→Option α),cd (some (e,vs,H)) k=k e vs H)∧
  (∀(P:Program) (rs:List ResultVar) (keep:List Nat) (e:bE) (vs:List Value) (H:aa),dX P rs keep e vs H=match e with| .normal| .ret=>Jc P rs (keep.zip vs) H| .exit _=>none)∧
  (∀(α:Type) [BEq α] [ReflBEq α] (a:α),(a==a)=true)∧(∀(α:Type) (i:Decidable True) (t e:α),@ite α True i t e=t)∧(∀(α:Type) (i:Decidable False) (t e:α),@ite α False i t e=e)∧
  ((!true)=false)∧((!false)=true)∧(∀b:Bool,(b&&b)=b)∧(∀b:Bool,(true&&b)=b)∧(∀b:Bool,(b&&true)=b)∧((false=true)=False)∧((true=false)=False)∧((true==false)=false)∧((false==true)=false)∧
  (∀(α β:Type) (a:α) (f:α→β),Option.map f (some a)=some (f a))∧(∀(α:Type) (xs:List α) (i:Nat),xs.toArray[i]? =xs[i]?)∧(∀(α:Type) (a:α) (l:List α),(a::l)[0]? =some a)∧(∀(α:Type) (a:α) (i:Nat) (l:List α),(a::l)[i+1]? =l[i]?)∧(∀n:Nat,0+n=n):=by
 refine⟨λ_ _ _ _=>rfl,λ_ _=>rfl,λ_ _=>rfl,λ_ _=>rfl,λ_ _=>rfl,λ_=>rfl,λ_ _ _=>rfl,λ_ _ _=>rfl,λ_ _ _ _=>rfl,λ_=>rfl,λ_ _ _ _ _ _=>rfl,λw _ _ _=>by cases w<;>rfl,λw _ _ _=>by cases w<;>rfl,mS,λ_ _ _=>rfl,λ_ _ _=>rfl,λ_ _ _=>rfl,ach,aci,acj,λ_ _ _ _=>rfl,λ_ _=>rfl,λ_ _ _=>rfl,λ_ _ _ _=>rfl,λ_ _ _ _ _=>rfl,λ_ _ _ _ _ _=>rfl,λ_ _ _ _ _=>rfl,λ_ _ _ _ _=>rfl,λ_ _ _ _ _=>rfl,λ_ _ _ _ _ _=>rfl,λ_ _ _=>rfl,λ_ _ _ _ _=>rfl,λ_ _ _ e _ _=>by cases e<;>rfl,λ_ _ _ a=>beq_self_eq_true a,λ_ i _ _=>@if_true _ i _ _,λ_ i _ _=>@if_false _ i _ _,rfl,rfl,λb=>by cases b<;>rfl,λb=>by cases b<;>rfl,λb=>by cases b<;>rfl,by simp,by simp,rfl,rfl,λ_ _ _ _=>rfl,λ_ _ _=>by simp,λ_ _ _=>rfl,λ_ _ _ _=>by simp,λn=>Nat.zero_add n⟩
section
variable {G:ae} {H H':aa} {o o':aj} {p m:Nat} {K:aa→aj→Prop}
theorem Ih (a:Int):aE (run G) 89 [cv a] H (Oa H):=by
 refine Ev.up (t:=λn=>Yr (run G n) n (cv a) H) ?_ λn=>Nj ..
 simp -implicitDefEqProofs only[Yr,sS,Nat.reduceAdd];repeat' (first| (refine Ev.ret ?_;exact⟨⟨_,rfl⟩,rfl⟩)| ((with_reducible first|refine Ev.gtr (λhq=>?_) (λhq=>?_)|refine Ev.leq (λhq=>?_) (λhq=>?_)|refine Ev.geq (λhq=>?_) (λhq=>?_))<;>try simp -implicitDefEqProofs only[sS,Nat.reduceAdd]))
theorem FN (a:Int):aE (run G) 57 [cv a] H (Cs H):=by
 refine Ev.up (t:=λn=>Zt (run G n) n (cv a) H) ?_ λn=>Nd ..
 simp -implicitDefEqProofs only[Zt,sS,Nat.reduceAdd];refine Ev.call (Ih a) ?_;rintro v H' ⟨⟨b,rfl⟩,rfl⟩;cases b<;>simp -implicitDefEqProofs only[sS,Nat.reduceAdd]<;>exact Ev.ret ⟨⟨_,rfl⟩,rfl⟩
theorem RH (a:Int):aE (run G) 83 [cv a] H (Cs H):=by
 refine Ev.up (t:=λn=>ZA (run G n) n (cv a) H) ?_ λn=>N0 ..
 simp -implicitDefEqProofs only[ZA,sS,Nat.reduceAdd];refine Ev.call (Ih a) ?_;rintro v H' ⟨⟨b,rfl⟩,rfl⟩;cases b<;>simp -implicitDefEqProofs only[sS,Nat.reduceAdd]<;>exact Ev.ret ⟨⟨_,rfl⟩,rfl⟩
theorem oK (a:Int):aE (run G) 130 [cv a] H (Oa H):=by
 refine Ev.up (t:=λn=>Nv (run G n) n (cv a) H) ?_ λn=>Hr ..
 simp -implicitDefEqProofs only[Nv,sS,Nat.reduceAdd];repeat' (first| (refine Ev.ret ?_;exact⟨⟨_,rfl⟩,rfl⟩)| ((with_reducible first|refine Ev.geq (λhq=>?_) (λhq=>?_))<;>try simp -implicitDefEqProofs only[sS,Nat.reduceAdd]))
theorem nq (a i:Int):aE (run G) 142 [cv a,cv i] H (Cs H):=by
 refine Ev.up (t:=λn=>NA (run G n) n (cv a) (cv i) H) ?_ λn=>HA ..
 simp -implicitDefEqProofs only[NA,sS,Nat.reduceAdd];refine Ev.call (oK a) ?_;rintro v H' ⟨⟨b,rfl⟩,rfl⟩;cases b<;>simp -implicitDefEqProofs only[sS,Nat.reduceAdd]
 ·(refine Ev.ret ?_;exact⟨⟨_,rfl⟩,rfl⟩)
 refine Ev.call (oK i) ?_;rintro v H' ⟨⟨b,rfl⟩,rfl⟩;cases b<;>simp -implicitDefEqProofs only[sS,Nat.reduceAdd]<;>exact Ev.ret ⟨⟨_,rfl⟩,rfl⟩
theorem AK (a d i:Int):aE (run G) 103 [cv a,cv d,cv i] H (Cs H):=by
 refine Ev.up (t:=λn=>Nu (run G n) n (cv a) (cv d) (cv i) H) ?_ λn=>Hj ..
 simp -implicitDefEqProofs only[Nu,sS,Nat.reduceAdd];refine Ev.call (oK a) ?_;rintro v H' ⟨⟨b,rfl⟩,rfl⟩;cases b<;>simp -implicitDefEqProofs only[sS,Nat.reduceAdd]
 ·(refine Ev.ret ?_;exact⟨⟨_,rfl⟩,rfl⟩)
 refine Ev.call (oK d) ?_;rintro v H' ⟨⟨b,rfl⟩,rfl⟩;cases b<;>simp -implicitDefEqProofs only[sS,Nat.reduceAdd]
 ·(refine Ev.ret ?_;exact⟨⟨_,rfl⟩,rfl⟩)
 refine Ev.call (oK i) ?_;rintro v H' ⟨⟨b,rfl⟩,rfl⟩;cases b<;>simp -implicitDefEqProofs only[sS,Nat.reduceAdd]<;>exact Ev.ret ⟨⟨_,rfl⟩,rfl⟩
end
section
variable {G:ae} {H H':aa} {o o':aj} {p m:Nat} {K:aa→aj→Prop}
def je (n:Int):Nat→Int→Int
 |0,r=>r
 |b+1,r=>je n b (if r+2^b≤n/(r+2^b) then r+2^b else r)
def jf (n:Int):Int:=if n<1 then 0 else je n 32 0
theorem yD {n:Int}: ∀(b:Nat) (r:Int),0≤r→r*r≤n→0≤je n b r∧je n b r*je n b r≤n
 |0,r,h0,h1=>⟨h0,h1⟩
 |b+1,r,h0,h1=>by
  unfold je;have hp:(0:Int)<2^b:=Int.pow_pos (by decide)
  split
  ·rename_i h;refine yD b _ (by omega) ?_
   exact(Int.le_ediv_iff_mul_le (by omega)).1 h
  ·exact yD b r h0 h1
theorem Tm {b:Nat}(hb:b≤31):(2:Int)^b≤2147483648:=by
 have h:2^b≤2^31:=Nat.pow_le_pow_right (by decide) hb
 have e:((2^b:Nat):Int)=2^b:=Int.natCast_pow 2 b;have h2:(2:Nat)^31=2147483648:=by decide
 rw[←e];rw[h2] at h;exact Int.ofNat_le.2 h
theorem ack (b:Nat)(hb:b≤31)(t:TypeId):ai Tryz.prog .shl t (cv 1) (.int .u64 b)=some (cv (2^b)):=by
 show qk .shl .i64 1 b=_
 simp only[qk];have h1:min ((b:Int).toNat) IntKind.i64.bits=b:=by
  show min ((b:Int).toNat) 64=b
  rw[Int.toNat_natCast];omega
 rw[h1];have h2:(2:Int)^b≤2147483648:=Tm hb;have h3:(0:Int)<2^b:=Int.pow_pos (by decide)
 rw[fL (by omega)];simp
theorem Ob (b:Nat)(hb:b≤31)(H:aa):Ar .u64 (cv b) H=some (.int .u64 b,H):=by
 show some (Value.int .u64 (IntKind.u64.wrap b),H)=_
 have:IntKind.u64.wrap (b:Int)=b:=by
  simp[IntKind.wrap,IntKind.signed,IntKind.bits];omega
 rw[this]
theorem W5 (a:Int)(ha:a≤16384):aE (run G) 164 [cv a] H λv H'=>v=cv (jf a)∧H'=H:=by
 refine Ev.up (t:=λn=>VN (run G n) n (cv a) H) ?_ λn=>QP ..
 simp -implicitDefEqProofs only[VN,sS,Nat.reduceAdd];refine Ev.lss (λhq=>?_) (λhq=>?_)<;>simp -implicitDefEqProofs only[sS,Nat.reduceAdd]
 ·exact Ev.ret ⟨by rw[jf,if_pos hq],rfl⟩
 refine Ev.loop (k:=32) (λk vs H'=>∃(r:Int) (d9 d5 d21:Value),H'=H∧k≤32∧0≤r∧r≤(32-k)*2147483648∧vs=[cv a,cv 0,.bool false,cv ((k:Int)-1),d9,cv r,d5,d21]∧je a k r=je a 32 0)
  (λr=>r.1= .exit 0∧r.2.2=H∧∃(d9 d5 d21 d4:Value),r.2.1=[cv a,cv 0,.bool false,d4,d9,cv (je a 32 0),d5,d21]) ⟨0,_,_,_,rfl,by omega,by omega,by omega,rfl,rfl⟩ ?_ ?_
 ·rintro k vs H' ⟨r,d9,d5,d21,rfl,hk,h0,h1,rfl,he⟩;simp -implicitDefEqProofs only[JT,xr,sS,Nat.reduceAdd];refine Ev.geq (λhq=>?_) (λhq=>?_)<;>simp -implicitDefEqProofs only[sS,Nat.reduceAdd]
  ·obtain⟨b,rfl⟩: ∃b,k=b+1:=⟨k-1,by omega⟩
   have eb:((b+1:Nat):Int)-1=(b:Int):=by omega
   have hb:b≤31:=by omega
   have hp:(0:Int)<2^b:=Int.pow_pos (by decide)
   have I3:(2:Int)^b≤2147483648:=Tm hb;have hw:IntKind.i64.wrap (r+2^b)=r+2^b:=fL (by omega)
   have ht:(0:Int)<r+2^b:=by omega
   have hd:a.tdiv (r+2^b)=a/(r+2^b):=Int.tdiv_eq_ediv_of_nonneg (by omega)
   have hd1:a/(r+2^b)≤a:=Int.ediv_le_self _ (by omega)
   have hd0:0≤a/(r+2^b):=Int.ediv_nonneg (by omega) (by omega)
   have RI:IntKind.i64.wrap (a/(r+2^b))=a/(r+2^b):=fL (by omega)
   have Tn:IntKind.i64.wrap ((b:Int)-1)=(b:Int)-1:=fL (by omega)
   simp -implicitDefEqProofs only[eb,Ob b hb,ack b hb,sS,Nat.reduceAdd,hw,nj _ _ _ (show r+2^b≠0 by omega),hd]
   rw[RI];have he2:je a b (if r+2^b≤a/(r+2^b) then r+2^b else r)=je a 32 0:=he
   refine Ev.leq (λhq=>?_) (λhq=>?_)<;>simp -implicitDefEqProofs only[JS,xm,sS,Nat.reduceAdd,Tn]
   ·rw[if_pos hq] at he2;exact Ev.ret (.inl ⟨rfl,b,by omega,_,_,_,_,rfl,by omega,by omega,by omega,rfl,he2⟩)
   ·rw[if_neg hq] at he2;exact Ev.ret (.inl ⟨rfl,b,by omega,_,_,_,_,rfl,by omega,by omega,by omega,rfl,he2⟩)
  ·have:k=0:=by omega
   subst this;exact Ev.ret (.inr ⟨by simp,rfl,rfl,_,_,_,_,by rw[←he];rfl⟩)
 ·rintro e vs H' ⟨he,rfl,d9,d5,d21,d4,rfl⟩;simp only at he;subst he;simp -implicitDefEqProofs only[JU,xu,sS,Nat.reduceAdd];exact Ev.ret ⟨by rw[jf,if_neg hq],rfl⟩
theorem To (a b:Int)(H:aa):MN (cv a) (cv b) H=some (cv (if b>a then b else a),H):=rfl
def bo (n:Int):Int:=if n<2∨n>16384 then 0 else if jf n>2 then jf n else 2
theorem py {n:Int}(h:2≤n∧n≤16384):2≤bo n∧bo n≤128∧bo n≤n:=by
 unfold bo;rw[if_neg (by omega)]
 have hr:jf n=je n 32 0:=by rw[jf,if_neg (by omega)]
 obtain⟨h0,h1⟩:=yD (n:=n) 32 0 (by omega) (by omega)
 rw[←hr] at h0 h1;have h2:jf n≤128:=by
  rcases Int.lt_or_le 128 (jf n) with g|g
  ·have:(129:Int)*129≤jf n*jf n:=Int.mul_le_mul (by omega) (by omega) (by omega) h0
   omega
  ·exact g
 split
 ·rename_i g;have:jf n*1≤jf n*jf n:=Int.mul_le_mul_of_nonneg_left (by omega) h0
  omega
 ·omega
theorem nr {n:Int}(h:n<2∨n>16384):bo n=0:=by unfold bo;rw[if_pos h]
theorem pz (n:Int):0≤bo n∧bo n≤128:=by
 by_cases h:n<2∨n>16384
 ·rw[nr h];omega
 ·have:=py (n:=n) (by omega);omega
theorem jS (a:Int):aE (run G) 148 [cv a] H λv H'=>v=cv (bo a)∧H'=H:=by
 refine Ev.up (t:=λn=>We (run G n) n (cv a) H) ?_ λn=>Q4 ..
 simp -implicitDefEqProofs only[We,sS,Nat.reduceAdd];refine Ev.lss (λh1=>?_) (λh1=>?_)<;>simp -implicitDefEqProofs only[sS,Nat.reduceAdd]
 ·exact Ev.ret ⟨by rw[nr (.inl h1)],rfl⟩
 refine Ev.gtr (λh2=>?_) (λh2=>?_)<;>simp -implicitDefEqProofs only[sS,Nat.reduceAdd]
 ·exact Ev.ret ⟨by rw[nr (.inr h2)],rfl⟩
 refine Ev.call (W5 a (by omega)) ?_
 rintro v H' ⟨rfl,rfl⟩;simp -implicitDefEqProofs only[To,sS,Nat.reduceAdd];exact Ev.ret ⟨by rw[bo,if_neg (show ¬(a<2∨a>16384) by omega)],rfl⟩
def b9 (n i:Int):Int:=if i<0∨i≥bo n then 0 else if i<n%bo n then n/bo n+1 else n/bo n
theorem jU {n i:Int}(h:2≤n∧n≤16384)(hi:0≤i∧i<bo n):1≤b9 n i∧b9 n i<n:=by
 obtain⟨h1,h2,h3⟩:=py h;have hq:1≤n/bo n:=(Int.le_ediv_iff_mul_le (by omega)).2 (by omega)
 have he:=Int.mul_ediv_add_emod n (bo n);have hm:=Int.emod_nonneg n (show bo n≠0 by omega)
 have hx:2*(n/bo n)≤bo n*(n/bo n):=Int.mul_le_mul_of_nonneg_right h1 (by omega)
 unfold b9;rw[if_neg (by omega)]
 split<;>omega
theorem Ct {n i:Int}(h: ¬(0≤i∧i<bo n)):b9 n i=0:=by unfold b9;rw[if_pos (by omega)]
theorem yE (a i:Int):aE (run G) 150 [cv a,cv i] H λv H'=>v=cv (b9 a i)∧H'=H:=by
 refine Ev.up (t:=λn=>Wf (run G n) n (cv a) (cv i) H) ?_ λn=>Q5 ..
 simp -implicitDefEqProofs only[Wf,sS,Nat.reduceAdd];refine Ev.call (jS a) ?_;rintro v H' ⟨rfl,rfl⟩
 try simp -implicitDefEqProofs only[sS,Nat.reduceAdd]
 refine Ev.lss (λh1=>?_) (λh1=>?_)<;>simp -implicitDefEqProofs only[sS,Nat.reduceAdd]
 ·exact Ev.ret ⟨by rw[Ct (by omega)],rfl⟩
 refine Ev.geq (λh2=>?_) (λh2=>?_)<;>simp -implicitDefEqProofs only[sS,Nat.reduceAdd]
 ·exact Ev.ret ⟨by rw[Ct (by omega)],rfl⟩
 have hr:2≤a∧a≤16384:=by
  rcases Int.lt_or_le a 2 with g|g
  ·have:=nr (n:=a) (.inl g);omega
  ·rcases Int.lt_or_le 16384 a with g2|g2
   ·have:=nr (n:=a) (.inr g2);omega
   ·exact⟨g,g2⟩
 have hd:=py hr;have hs:=jU hr (i:=i) (by omega)
 have e1:a.tmod (bo a)=a%bo a:=Int.tmod_eq_emod_of_nonneg (by omega)
 have e2:a.tdiv (bo a)=a/bo a:=Int.tdiv_eq_ediv_of_nonneg (by omega)
 have qv:a/bo a≤a:=Int.ediv_le_self _ (by omega)
 have hq0:0≤a/bo a:=Int.ediv_nonneg (by omega) (by omega)
 have hw:IntKind.i64.wrap (a/bo a)=a/bo a:=fL (by omega)
 have uA:IntKind.i64.wrap (a/bo a+1)=a/bo a+1:=fL (by omega)
 simp -implicitDefEqProofs only[vD _ _ _ (show bo a≠0 by omega),nj _ _ _ (show bo a≠0 by omega),e1,e2,hw,sS,Nat.reduceAdd]
 refine Ev.lss (λh3=>?_) (λh3=>?_)<;>simp -implicitDefEqProofs only[uA,sS,Nat.reduceAdd]
 ·exact Ev.ret ⟨by rw[b9,if_neg (by omega),if_pos h3],rfl⟩
 ·exact Ev.ret ⟨by rw[b9,if_neg (by omega),if_neg h3],rfl⟩
def cD (n:Int):Nat→Int
 |0=>0
 |k+1=>cD n k+b9 n k
theorem D1 {n:Int}(h:2≤n∧n≤16384): ∀k:Nat,(k:Int)≤bo n→cD n k=k*(n/bo n)+min (k:Int) (n%bo n)
 |0,_=>by
  have:=Int.emod_nonneg n (show bo n≠0 by have:=py h;omega)
  simp only[cD,Int.natCast_zero,Int.zero_mul];omega
 |k+1,hk=>by
  have ih:=D1 h k (by omega)
  rw[cD,ih,b9,if_neg (by omega),Int.natCast_add,Int.add_mul,Int.natCast_one,Int.one_mul]
  split<;>omega
theorem AL {n:Int}(h:2≤n∧n≤16384){d:Nat}(hd:(d:Int)=bo n):cD n d=n:=by
 obtain⟨h1,h2,h3⟩:=py h;have hm:=Int.emod_lt_of_pos n (show 0<bo n by omega)
 have he:=Int.mul_ediv_add_emod n (bo n);rw[D1 h d (by omega),hd]
 have:min (bo n) (n%bo n)=n%bo n:=by omega
 rw[this];exact he
theorem yF (n i:Int):0≤b9 n i∧b9 n i≤16384:=by
 by_cases g:0≤i∧i<bo n
 ·have hr:2≤n∧n≤16384:=by
   rcases Int.lt_or_le n 2 with g1|g1
   ·have:=nr (n:=n) (.inl g1);omega
   ·rcases Int.lt_or_le 16384 n with g2|g2
    ·have:=nr (n:=n) (.inr g2);omega
    ·exact⟨g1,g2⟩
  have:=jU hr g;omega
 ·rw[Ct g];omega
theorem yG (n:Int){i:Nat}: ∀j,i≤j→cD n i≤cD n j
 |0,h=>by
  have:i=0:=by omega
  subst this;omega
 |j+1,h=>by
  rcases Nat.lt_or_ge j i with g|g
  ·have:i=j+1:=by omega
   subst this;omega
  ·have:=yG n j g
   have:=yF n j
   rw[cD];omega
theorem yH (n:Int)(i:Nat):0≤cD n i:=yG n (i:=0) i (by omega)
theorem vE {n:Int}(h:2≤n∧n≤16384){i:Nat}(hi:(i:Int)<bo n):cD n i+b9 n i≤n:=by
 obtain⟨d,hd⟩: ∃d:Nat,(d:Int)=bo n:=⟨(bo n).toNat,by have:=py h;omega⟩
 have:=yG n (i:=i+1) d (by omega)
 rw[AL h hd,cD] at this;exact this
theorem AM (n:Int): ∀i:Nat,cD n i≤16384*i
 |0=>by simp[cD]
 |i+1=>by have:=AM n i;have:=yF n i;rw[cD];omega
def gI (n i:Int):Int:=if i<0∨i≥bo n then 0 else cD n i.toNat
theorem Oc (a i:Int):aE (run G) 149 [cv a,cv i] H λv H'=>v=cv (gI a i)∧H'=H:=by
 refine Ev.up (t:=λn=>Vf (run G n) n (cv a) (cv i) H) ?_ λn=>Qw ..
 simp -implicitDefEqProofs only[Vf,sS,Nat.reduceAdd];refine Ev.lss (λh1=>?_) (λh1=>?_)<;>simp -implicitDefEqProofs only[sS,Nat.reduceAdd]
 ·exact Ev.ret ⟨by rw[gI,if_pos (.inl h1)],rfl⟩
 refine Ev.call (jS a) ?_;rintro v H' ⟨rfl,rfl⟩
 try simp -implicitDefEqProofs only[sS,Nat.reduceAdd]
 refine Ev.geq (λh2=>?_) (λh2=>?_)<;>simp -implicitDefEqProofs only[sS,Nat.reduceAdd]
 ·exact Ev.ret ⟨by rw[gI,if_pos (.inr h2)],rfl⟩
 have hdn:=pz a;refine Ev.loop (k:=i.toNat) (λk vs Hx=>∃(j:Nat) (d17:Value),Hx=H'∧(j:Int)+k=i∧vs=[cv a,cv i,cv 0,.bool false,cv j,d17,cv (cD a j)])
  (λr=>r.1= .exit 0∧r.2.2=H'∧∃(d d17:Value),r.2.1=[cv a,cv i,cv 0,.bool false,d,d17,cv (cD a i.toNat)]) ⟨0,_,rfl,by omega,rfl⟩ ?_ ?_
 ·rintro k vs Hx ⟨j,d17,rfl,hj,rfl⟩;simp -implicitDefEqProofs only[Jz,ad1,sS,Nat.reduceAdd];refine Ev.lss (λhq=>?_) (λhq=>?_)<;>simp -implicitDefEqProofs only[sS,Nat.reduceAdd]
  ·refine Ev.call (yE a j) ?_;rintro v H' ⟨rfl,rfl⟩;have hb:=AM a j;have hs:=yF a j;have h0:=yH a j;have hw:IntKind.i64.wrap (cD a j+b9 a j)=cD a (j+1):=by rw[fL (by omega),cD]
   have uA:IntKind.i64.wrap ((j:Int)+1)=((j+1:Nat):Int):=by rw[fL (by omega)];omega
   simp -implicitDefEqProofs only[sS,Nat.reduceAdd,hw,uA];exact Ev.ret (.inl ⟨rfl,k-1,by omega,j+1,_,rfl,by omega,rfl⟩)
  ·have:j=i.toNat:=by omega
   subst this;exact Ev.ret (.inr ⟨by simp,rfl,rfl,_,_,rfl⟩)
 ·rintro e vs Hx ⟨he,rfl,d,d17,rfl⟩;simp only at he;subst he;simp -implicitDefEqProofs only[JA,w7,sS,Nat.reduceAdd];exact Ev.ret ⟨by rw[gI,if_neg (by omega)],rfl⟩
end
end Go.Proofs.YtgfgglponbmgmaaGreat.Fun
end
section
namespace Go.Proofs.YtgfgglponbmgmaaGreatA.Y
inductive Ask where
 |rd (a:Int)
 |wr (a x:Int)
 |cs (a old x:Int)
 |ad (a d:Int)
 |mk (w:List Int)
deriving DecidableEq
inductive Tr (α:Type):Type where
 |ret (a:α)
 |ask (q:Ask) (k:Int→Tr α)
 |off (k:Bool→Tr α)
 |rc (r:Int) (t:Tr α)
 |ld (t:Tr α)
variable {α β γ:Type}
def Tr.bind:Tr α→(α→Tr β)→Tr β
 | .ret a,f=>f a
 | .ask q k,f=>.ask q λz=>(k z).bind f
 | .off k,f=>.off λb=>(k b).bind f
 | .rc r t,f=>.rc r (t.bind f)
 | .ld t,f=>.ld (t.bind f)
instance:Monad Tr where
 pure:=Tr.ret
 bind:=Tr.bind
@[simp] theorem ZF (a:α)(f:α→Tr β):(Tr.ret a >>= f)=f a:=rfl
@[simp] theorem bind_pure (a:α)(f:α→Tr β):((pure a:Tr α) >>= f)=f a:=rfl
@[simp] theorem ZG (a:α):(pure a:Tr α)= .ret a:=rfl
@[simp] theorem ZH (q:Ask)(k:Int→Tr α)(f:α→Tr β):(Tr.ask q k >>= f)= .ask q λz=>k z >>= f:=rfl
@[simp] theorem ZI (k:Bool→Tr α)(f:α→Tr β):(Tr.off k >>= f)= .off λb=>k b >>= f:=rfl
@[simp] theorem abg (r:Int)(t:Tr α)(f:α→Tr β):(Tr.rc r t >>= f)= .rc r (t >>= f):=rfl
@[simp] theorem abh (t:Tr α)(f:α→Tr β):(Tr.ld t >>= f)= .ld (t >>= f):=rfl
theorem bind_assoc (t:Tr α)(f:α→Tr β)(g:β→Tr γ):((t >>= f) >>= g)=t >>= λa=>f a >>= g:=by
 induction t with
 |ret a=>rfl
 |ask q k ih=>simp[ih]
 |off k ih=>simp[ih]
 |rc r t ih=>simp[ih]
 |ld t ih=>simp[ih]
structure St where
 rest:List Int
 off:Bool
 next:Ask
 oL:Int
 laid:Int
def St.left (s:St):Nat:=if s.off then 0 else s.rest.length+1
def oM (q:Ask)(s:St):Int×St:=
 if s.off then(0,s) else
 match s.rest with
 |z::r=>(z,{s with rest:=r})
 | []=>(0,{s with off:=true,next:=q})
def ah:Tr α→St→α×St
 | .ret a,s=>(a,s)
 | .ask q k,s=>let r:=oM q s;ah (k r.1) r.2
 | .off k,s=>ah (k s.off) s
 | .rc r t,s=>ah t {s with oL:=r}
 | .ld t,s=>ah t {s with laid:=if s.oL>0 then s.oL else s.laid}
theorem ak (t:Tr α)(f:α→Tr β)(s:St):ah (t >>= f) s=ah (f (ah t s).1) (ah t s).2:=by
 induction t generalizing s with
 |ret a=>rfl
 |ask q k ih=>simp[ah,ih]
 |off k ih=>simp[ah,ih]
 |rc r t ih=>simp[ah,ih]
 |ld t ih=>simp[ah,ih]
theorem aJ {t:Tr α}{f:α→Tr β}{s s':St}{a:α}(h:ah t s=(a,s')):ah (t >>= f) s=ah (f a) s':=by
 rw[ak,h]
theorem tz (q:Ask)(s:St):(oM q s).2.left=s.left-1:=by
 unfold oM St.left;split
 ·simp_all
 ·split<;>simp_all
theorem D2 (q:Ask)(s:St)(h:s.off=true):oM q s=(0,s):=by simp[oM,h]
theorem D3 (t:Tr α)(s:St):(ah t s).2.left≤s.left:=by
 induction t generalizing s with
 |ret a=>exact Nat.le_refl _
 |ask q k ih=>exact Nat.le_trans (ih _ _) (by rw[tz];omega)
 |off k ih=>exact ih _ _
 |rc r t ih=>exact Nat.le_trans (ih _) (by simp[St.left])
 |ld t ih=>exact Nat.le_trans (ih _) (by simp[St.left])
theorem FO (t:Tr α)(s:St)(h:s.off=true):(ah t s).2.off=true∧(ah t s).2.next=s.next:=by
 induction t generalizing s with
 |ret a=>exact⟨h,rfl⟩
 |ask q k ih=>simp only[ah,D2 q s h];exact ih _ s h
 |off k ih=>exact ih _ s h
 |rc r t ih=>exact ih {s with oL:=r} h
 |ld t ih=>exact ih {s with laid:=if s.oL>0 then s.oL else s.laid} h
def norm:Tr α→Tr α
 | .ret a=>.ret a
 | .ask q k=>.ask q k
 | .off k=>norm (k false)
 | .rc _ t=>norm t
 | .ld t=>norm t
def after (t:Tr α):List Int→Tr α
 | []=>norm t
 |z::r=>match norm t with
  | .ask _ k=>after (k z) r
  |u=>u
theorem pA (t:Tr α):norm (norm t)=norm t:=by
 induction t with
 |ret a=>rfl
 |ask q k ih=>rfl
 |off k ih=>exact ih false
 |rc r t ih=>exact ih
 |ld t ih=>exact ih
theorem Cu (t:Tr α)(s:St)(h:s.off=false):
  match after t s.rest with
  | .ret a=>(ah t s).1=a∧(ah t s).2.off=false
  | .ask q _=>(ah t s).2.off=true∧(ah t s).2.next=q
  |_=>False:=by
 induction t generalizing s with
 |ret a=>cases hr:s.rest<;>simp[after,norm,ah,h]
 |ask q k ih=>
  cases hr:s.rest with
  |nil=>
   simp only[after,norm,ah,oM,h,hr];exact FO _ _ rfl
  |cons z r=>
   have e:oM q s=(z,{s with rest:=r}):=by simp[oM,h,hr]
   have:=ih z {s with rest:=r} h
   simp only[after,norm,ah,e];exact this
 |off k ih=>
  have e:after (.off k) s.rest=after (k false) s.rest:=by cases s.rest<;>rfl
  rw[e];simp only[ah,h];exact ih false s h
 |rc r t ih=>
  have e:after (.rc r t) s.rest=after t s.rest:=by cases s.rest<;>rfl
  rw[e];exact ih {s with oL:=r} h
 |ld t ih=>
  have e:after (.ld t) s.rest=after t s.rest:=by cases s.rest<;>rfl
  rw[e];exact ih {s with laid:=if s.oL>0 then s.oL else s.laid} h
theorem FP (t:Tr α)(l:List Int)(z:Int):after t (l++[z])=match after t l with
  | .ask _ k=>norm (k z)
  |u=>u:=by
 induction l generalizing t with
 |nil=>simp only[List.nil_append,after]
 |cons y l ih=>
  simp only[List.cons_append,after];cases e:norm t with
  |ask q k=>exact ih (k y)
  |ret a=>rfl
  |off k=>simp
  |rc r t=>simp
  |ld t=>simp
def wr (x:Int):Int:=(x+9223372036854775808)%18446744073709551616-9223372036854775808
def fM (w:Int):Bool:=decide (w>8)&&decide (w%8≥1)&&decide (w%8≤5)&&decide (wr (w/8)≤65536)
def kd (w:Int):Int:=if fM w then w%8 else 0
def aw (w:Int):Int:=if fM w then wr (w/8) else 0
def fI (k a:Int):Int:=if k<1∨k>5∨a<1∨a>65536 then 0 else 8*a+k
def D4 (n:Int):Bool:=decide (n≥0)&&decide (n≤1099511627776)
def lC (n i:Int):Int:=if !D4 n|| !D4 i then 0 else n+4+i
def dh (n d i:Int):Int:=if !D4 n|| !D4 d|| !D4 i then 0 else n+4+d+i
def Od (n:Int):Int:=if n<0∨n>16384 then 0 else n/4+2
def je (n:Int):Nat→Int→Int
 |0,r=>r
 |b+1,r=>je n b (if r+2^b≤n/(r+2^b) then r+2^b else r)
def jf (n:Int):Int:=if n<1 then 0 else je n 32 0
def bo (n:Int):Int:=if n<2∨n>16384 then 0 else if jf n>2 then jf n else 2
def b9 (n i:Int):Int:=if i<0∨i≥bo n then 0 else if i<n%bo n then n/bo n+1 else n/bo n
def cD (n:Int):Nat→Int
 |0=>0
 |i+1=>cD n i+b9 n i
def gI (n i:Int):Int:=if i<0∨i≥bo n then 0 else cD n i.toNat
def cl (part whole:Int)(n:Int):Nat→Int→Int→Int
 |0,q,_=>q
 |b+1,q,r=>
  let q1:=if r≥whole-r then 2*q+1 else 2*q
  let r1:=if r≥whole-r then r-(whole-r) else r+r
  if n/2^b%2=0 then cl part whole n b q1 r1
  else if part≥whole-r1 then cl part whole n b (q1+1) (r1-(whole-part))
  else cl part whole n b q1 (r1+part)
def kf (part whole n:Int):Int:=if whole=0∨n<1∨n>65536 then 0 else cl (if part<whole then part else whole) whole n 17 0 0
def uT (a b:Int):Int:=if b<a then 0 else(b-a)%18446744073709551616
def ig (first last k n:Int):Int:=if n<2∨n>65536∨k<first∨k≥last then 0 else 1+kf (uT first k) (uT first last) (n-1)
abbrev rd (a:Int):Tr Int:=.ask (.rd a) .ret
abbrev wt (a x:Int):Tr Int:=.ask (.wr a x) .ret
abbrev cs (a old x:Int):Tr Int:=.ask (.cs a old x) .ret
abbrev ad (a d:Int):Tr Int:=.ask (.ad a d) .ret
abbrev mk (w:List Int):Tr Int:=.ask (.mk w) .ret
abbrev gT:Tr Bool:=.off .ret
def sd (s:Int):Tr Int:=do
 let w ←rd s
 if kd w≠5 then pure w else
 let o ←rd (aw w+4)
 if o=1 then rd (aw w+3) else rd (aw w+2)
def yI (dS:Int):Tr Unit:=do
 let p ←rd dS
 let g ←rd p
 let _ ←cs (dS+4) 0 (if g≠0 then 2 else 1)
 let o ←rd (dS+4)
 let s ←rd (dS+1)
 let v ←if o=1 then rd (dS+3) else rd (dS+2)
 let _ ←cs s (fI 5 dS) v
 pure ()
def se (s:Int):Nat→Int→Tr Int
 |0,w=>pure w
 |f+1,w=>do
  let b ←gT
  if !b∧kd w=5 then
   yI (aw w)
   let w' ←rd s
   se s f w'
  else pure w
def kr (f:Nat)(s:Int):Tr Int:=do
 let w ←rd s
 se s f w
def fj (g p old x:Int):List Int:=[g,p,old,x,0]
def sg (g p old x:Int):Tr Int:=do
 let a ←mk (fj g p old x)
 if ¬a>0 then pure 3 else
 Tr.rc a do
 let b ←cs p old (fI 5 a)
 if b≠1 then pure 0 else
 let gv ←rd g
 let _ ←cs (wr (a+4)) 0 (if gv≠0 then 2 else 1)
 let o ←rd (wr (a+4))
 if o=1 then
  let _ ←cs p (fI 5 a) x
  pure 1
 else
  let _ ←cs p (fI 5 a) old
  pure 2
def mF (n k:Int):Nat→Int→Tr Int
 |0,_=>pure 1
 |f+1,i=>if i>1 then do
   let b ←gT
   if b then pure 1 else
   let z ←rd (lC n i)
   if z≤k then pure i else mF n k f (i-1)
  else pure 1
def KY (n k m:Int):Nat→Int→Tr Int
 |0,_=>pure (m-1)
 |f+1,i=>if i<m then do
   let b ←gT
   if b then pure (m-1) else
   let z ←rd (lC n i)
   if z>k then pure (i-1) else KY n k m f (i+1)
  else pure (m-1)
def kW (f:Nat)(n k:Int):Tr (Int×Int):=do
 let d ←rd n
 let m:=wr (d-1)
 if m<1 then pure (d,0) else
 let first ←rd (lC n 1)
 if k<first then pure (d,0) else
 if m=1 then pure (d,1) else
 let last ←rd (lC n m)
 if k≥last then pure (d,m) else
 let j:=ig first last k m
 let b ←gT
 if b∨j<1 then pure (d,0) else
 let down ←(if j>1 then do
   let z ←rd (lC n j)
   pure (decide (z>k))
  else pure false)
 if down then
  let i ←mF n k f (j-1)
  pure (d,i)
 else
  let i ←KY n k m f (j+1)
  pure (d,i)
def nt (f:Nat)(n k:Int):Tr Int:=do
 let dc ←kW f n k
 pure (dh n dc.1 dc.2)
mutual
def jV (f:Nat) (n:Int):Tr Int:=
 match f with
 |0=>pure 0
 |f+1=>do
  let s ←rd (n+4)
  if s≠0 then pure (wr (s-1)) else
  let _ ←wt (n+2) 1
  let d ←rd n
  let all ←ir f n d 0 0
  let _ ←wt (n+4) (wr (all+1))
  pure all
def ir (f:Nat) (n d i all:Int):Tr Int:=
 match f with
 |0=>pure all
 |f+1=>if ¬i<d then pure all else do
  let b ←gT
  if b then pure all else
  let w ←kr f (dh n d i)
  if kd w=2 then ir f n d (i+1) (wr (all+1)) else
  if kd w=3 then
   let z ←jV f (aw w)
   ir f n d (i+1) (wr (all+z))
  else if kd w=4 then
   let t ←rd (aw w)
   let z ←jV f (aw t)
   ir f n d (i+1) (wr (all+z))
  else ir f n d (i+1) all
end
abbrev PL:=List (Int×Int)
mutual
def gJ (f:Nat) (n fr to:Int) (out:PL):Tr PL:=
 match f with
 |0=>pure out
 |f+1=>do
  let d ←rd n
  cW f n d fr to 0 0 out
def cW (f:Nat) (n d fr to i kX:Int) (out:PL):Tr PL:=
 match f with
 |0=>pure out
 |f+1=>if ¬i<d then pure out else if ¬kX<to then pure out else do
  let b ←gT
  if b then pure out else
  let w ←sd (dh n d i)
  if kd w=2 then
   if kX≥fr then
    let k ←rd (aw w)
    let v ←rd (aw w+1)
    cW f n d fr to (i+1) (wr (kX+1)) (out++[(k,v)])
   else cW f n d fr to (i+1) (wr (kX+1)) out
  else if kd w=3∨kd w=4 then
   let a ←(if kd w=4 then do
     let t ←rd (aw w)
     pure (aw t)
    else pure (aw w))
   let z ←rd (a+4)
   let s:=wr (z-1)
   let o ←(if wr (kX+s)>fr then gJ f a (wr (fr-kX)) (wr (to-kX)) out else pure out)
   cW f n d fr to (i+1) (wr (kX+s)) o
  else cW f n d fr to (i+1) kX out
end
def cP (n:Int)(q c:List Int):List Int:=if c.length≠q.length+1 then[] else[(c.length:Int),n,0,0,0]++q++c
def jg (w g s:Int):List Int:=[w,g,s,0,0]
mutual
def iu (f:Nat) (l:PL):Tr (Int×Bool):=
 match f with
 |0=>pure (0,false)
 |f+1=>
  match l with
  | []=>do let a ←mk [0];pure (fI 1 a,decide (a>0))
  | [kv]=>do let a ←mk [kv.1,kv.2];pure (fI 2 a,decide (a>0))
  |l=>kY f l (bo l.length).toNat 0 [] []
def kY (f:Nat) (l:PL) (r i:Nat) (q c:List Int):Tr (Int×Bool):=
 match r with
 |0=>do let a ←mk (cP l.length q c);pure (fI 3 a,decide (a>0))
 |r+1=>do
  let dS:=(gI l.length i).toNat
  let s:=(b9 l.length i).toNat
  let q':=if i>0 then q++[(l.getD dS (0,0)).1] else q
  let wo ←iu f ((l.drop dS).take s)
  if wo.2=false then pure (0,false) else
  kY f l r (i+1) q' (c++[wo.1])
end
def Cv (f:Nat)(t n:Int):Tr (Int×Bool):=
 if n≥2 then do
  let d:=max (bo n) 1
  let a ←mk (cP n (List.replicate (d-1).toNat 0) (List.replicate d.toNat 0))
  pure (fI 3 a,decide (a>0))
 else do
  let p ←(if n=1 then gJ f t 0 1 [] else pure [])
  let b ←gT
  if b then pure (0,false) else iu (p.length+1) p
def KZ (p:PL)(x d i w:Int):Tr Bool:=
 match p with
 | []=>do
  let _ ←cs (dh x d i) 0 w
  pure true
 |kv::_=>if i>0 then do
   let _ ←wt (lC x i) kv.1
   let _ ←cs (dh x d i) 0 w
   pure true
  else do
   let _ ←cs (dh x d i) 0 w
   pure true
def oN (f:Nat)(t n x d i:Int):Tr Bool:=do
 let p ←gJ f t (gI n i) (gI n i+b9 n i) []
 let b ←gT
 if b then pure true else
 let wo ←iu (p.length+1) p
 if wo.2=false then pure false else
 KZ p x d i wo.1
def kg (g:Nat)(dS t n x:Int):Nat→Tr Bool
 |0=>pure true
 |f+1=>do
  let b ←gT
  if b then pure true else
  let i ←ad (wr (dS+4)) 1
  if i≥bo n then pure true else
  let b ←gT
  if b then pure true else
  let ok ←oN g t n x (bo n) i
  if ok=false then pure false else kg g dS t n x f
def gK (g:Nat)(t n x:Int):Nat→Int→Tr Bool
 |0,_=>pure true
 |f+1,j=>if ¬j<bo n then pure true else do
  let b ←gT
  if b then pure true else
  let c ←rd (dh x (bo n) j)
  if c≠0 then gK g t n x f (j+1) else
  let b ←gT
  if b then gK g t n x f (j+1) else
  let ok ←oN g t n x (bo n) j
  if ok=false then pure false else gK g t n x f (j+1)
def gg (f:Nat)(dS t n x:Int):Tr Bool:=do
 let ok ←kg f dS t n x f
 if ok=false then pure false else gK f t n x f 0
def tA (dS w:Int):Tr Bool:=do
 let g ←rd (wr (dS+1))
 let s ←rd (wr (dS+2))
 let r ←sg g s (fI 4 dS) w
 pure (decide (r≠3))
def AN (f:Nat)(dS t n w:Int):Tr Bool:=
 if n≥2 then do
  let ok ←gg f dS t n (aw w)
  if ok=false then pure false else tA dS w
 else tA dS w
def gU (f:Nat)(dS:Int):Tr Bool:=do
 let tw ←rd dS
 let n ←jV f (aw tw)
 let w ←rd (wr (dS+3))
 let b ←gT
 if b then pure true else
 if w=0 then
  let xo ←Cv f (aw tw) n
  if xo.2=false then pure false else
  let _ ←cs (wr (dS+3)) 0 xo.1
  let w' ←rd (wr (dS+3))
  AN f dS (aw tw) n w'
 else AN f dS (aw tw) n w
structure En where
 node:Int
 slot:Int
 word:Int
def oO (f:Nat)(e:En):Tr Bool:=do
 let a ←mk (jg e.word (e.node+2) e.slot)
 if ¬a>0 then pure false else
 let r ←sg (e.node+2) e.slot e.word (fI 4 a)
 if r=1 then gU f a else
 pure (decide (r≠3))
def di (f:Nat)(first:Option En):List En→Tr Unit
 | []=>match first with
  |none=>pure ()
  |some e=>do
   let b ←gT
   if b then pure () else
   let _ ←oO f e
   pure ()
 |e::l=>do
  let b ←gT
  if b then pure () else
  let c ←ad (aw e.word+3) 1
  let s ←rd (aw e.word+1)
  di f (match first with
   |some x=>some x
   |none=>if wr (c+1)≥Od s then some e else none) l
structure Op where
 kind:Int
 key:Int
 value:Int
structure Rs where
 D5:Int
 found:Bool
 key:Int
 value:Int
def Rs.nil:Rs:=⟨0,false,0,0⟩
def Rs.qg:Rs:=⟨8,false,0,0⟩
def mf (op:Op)(w q:Int)(leaf there:Bool):Tr (Int×Bool):=
 if op.kind=3 then do
  let a ←mk [0]
  pure (fI 1 a,decide (a>0))
 else do
  let a ←mk [op.key,op.value]
  if ¬a>0∨leaf=false∨there=true then pure (fI 2 a,decide (a>0)) else
  let b ←mk (cP 2 [max q op.key] (if op.key<q then[fI 2 a,w] else[w,fI 2 a]))
  pure (fI 3 b,decide (b>0))
def yJ (f:Nat)(op:Op)(n s w q:Int)(leaf:Bool)(path:List En)(res:Rs):Tr (Rs×Bool):=do
 let b ←gT
 if b∨(op.kind=1∧res.found=true)∨(op.kind=3∧res.found=false) then pure (res,true) else
 let xo ←mf op w q leaf res.found
 if xo.2=false then pure (Rs.qg,true) else
 Tr.rc 0 do
 let o ←sg (n+2) s w xo.1
 Tr.ld do
 if o=3 then pure (Rs.qg,true) else
 if o=1∧(op.kind≠2∨res.found=false) then
  di f none path
  pure (res,true)
 else pure (res,decide (o=1))
def lD (f:Nat)(op:Op)(n s w:Int)(path:List En):Tr (Rs×Bool):=
 if kd w=2 then do
  let q ←rd (aw w)
  if q=op.key then
   let v ←rd (aw w+1)
   yJ f op n s w q true path ⟨0,true,q,v⟩
  else yJ f op n s w q true path Rs.nil
 else yJ f op n s w 0 false path Rs.nil
def dP (g:Nat)(op:Op):Nat→Int→List En→Tr (Rs×Bool)
 |0,_,_=>pure (Rs.nil,true)
 |f+1,n,path=>do
  let b ←gT
  if b then pure (Rs.nil,true) else
  let s ←nt g n op.key
  let w ←kr g s
  if kd w=4 then
   let ok ←gU g (aw w)
   if ok=false then pure (Rs.qg,true) else pure (Rs.nil,false)
  else if kd w=3 then dP g op f (aw w) (path++[⟨n,s,w⟩])
  else lD g op n s w path
def gh (g:Nat)(op:Op):Nat→Tr Rs
 |0=>pure Rs.nil
 |f+1=>do
  let b ←gT
  if b then pure Rs.nil else
  let re ←dP g op g 1 []
  if re.2=true then pure re.1 else gh g op f
end Go.Proofs.YtgfgglponbmgmaaGreatA.Y
end
