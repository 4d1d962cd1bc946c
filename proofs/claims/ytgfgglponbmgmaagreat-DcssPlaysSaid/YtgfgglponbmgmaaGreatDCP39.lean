/- Texts of the proof of dcssPlays_holds, put together by a small program of ours (names shortened, spaces taken out). No condition beyond the given statement. -/
import Derived.Test.YtgfgglponbmgmaaGreatDCP10
import Derived.Test.YtgfgglponbmgmaaGreatDCP12
import Derived.Test.YtgfgglponbmgmaaGreatDCP13
import Derived.Test.YtgfgglponbmgmaaGreatDCP16
import Derived.Test.YtgfgglponbmgmaaGreatDCP14
import Derived.Test.YtgfgglponbmgmaaGreatDCP18
import Derived.Test.YtgfgglponbmgmaaGreatDCP15
import Derived.Test.YtgfgglponbmgmaaGreatDCP38
import Derived.IntWalk
import Derived.Laws.BitsLemmas
import Derived.Test.YtgfgglponbmgmaaGreatDCP17
set_option linter.unusedVariables false
set_option linter.unusedSimpArgs false
set_option linter.unnecessarySimpa false
noncomputable section
section
namespace Go.Proofs.YtgfgglponbmgmaaGreat.Fun
open Go Go.RowKit Go.Proofs.YtgfgglponbmgmaaGreatA.Am
set_option maxRecDepth 10000
section
open Go.Proofs.YtgfgglponbmgmaaGreatA
variable {G:ae} {H H':aa} {o o':aj} {p c pp f i:Nat} {K:aa→aj→Prop} {x:Value} {m m':Y.Mm} {cl:Int}
theorem JR (n:Int)(ad4:0≤n)(h₁:n<2^63):IntKind.i64.wrap n=n:=by rw[IntKind.wrap_i64];omega
theorem adK (x:Int)(h0:0≤x)(h1:x<2^63):Go.bits .and .i64 x 7=x%8:=
 bits_mask .i64 63 (by decide) JR 3 (by decide) x h0 h1
theorem or3 (x y:Int)(h0:0≤x)(hx:x%8=0)(h1:x<2^63)(hy0:0≤y)(hy:y<8):Go.bits .or .i64 x y=x+y:=
 bits_join .i64 63 (by decide) JR 3 x y h0 hx h1 hy0 hy (by omega)
theorem adL (t:TypeId)(a:Int):ai Tryz.prog .shl t (cv a) (.int .u64 3)=some (cv (IntKind.i64.wrap (a*8))):=rfl
theorem adM (t:TypeId)(a:Int):ai Tryz.prog .shr t (cv a) (.int .u64 3)=some (cv (a.fdiv 8)):=rfl
def Fo (a b:Int):Bool:=decide (1≤a∧a≤5∧1≤b∧b≤65536)
theorem QX (a b:Int):aF (run G) 79 [cv a,cv b] H (Is H (.bool (Fo a b))):=by
 refine Ev.up (t:=λn=>F79 (run G n) n (cv a) (cv b) H) ?_ λn=>Yh ..
 simp -implicitDefEqProofs only[F79,sS,Nat.reduceAdd];repeat' (first| (refine Ev.ret ⟨?_,rfl⟩;refine congrArg Value.bool ?_;simp[Fo];omega)| ((with_reducible first|refine Ev.leq (λhq=>?_) (λhq=>?_)|refine Ev.geq (λhq=>?_) (λhq=>?_))<;>try simp -implicitDefEqProofs only[sS,Nat.reduceAdd]))
theorem V6 (k a:Int):aF (run G) 38 [cv k,cv a] H (Is H (cv (Y.fP k a))):=by
 refine Ev.up (t:=λn=>F38 (run G n) n (cv k) (cv a) H) ?_ λn=>XU ..
 simp -implicitDefEqProofs only[F38,sS,Nat.reduceAdd];refine Ev.is (QX k a) ?_;cases hm:Fo k a<;>simp -implicitDefEqProofs only[sS,Nat.reduceAdd]
 ·refine Ev.ret ⟨congrArg cv ?_,rfl⟩;simp[Fo] at hm;unfold Y.fP;rw[if_pos (by omega)]
 ·simp[Fo] at hm;have e:bits .or .i64 (a*8) k=a*8+k:=or3 _ _ (by omega) (by omega) (by omega) (by omega) (by omega)
  simp -implicitDefEqProofs only[adL,YY,gz (x:=a*8) (by omega),e,sS,Nat.reduceAdd]
  refine Ev.ret ⟨congrArg cv ?_,rfl⟩;unfold Y.fP;rw[if_neg (by omega)];omega
def Ur (w:Int):Bool:=decide (0≤w∧w≤524296)
def pk (w:Int):Int:=if Ur w then Y.kd w else 0
def pa (w:Int):Int:=if Ur w then Y.aw w else 0
theorem ad5 {w:Int}(h:YZ w):pk w=Y.kd w∧pa w=Y.aw w:=by
 unfold pk pa;cases e:Ur w with
 |true=>exact⟨rfl,rfl⟩
 |false=>
  have hr:Y.gi w=false:=by
   simp only[Ur,decide_eq_false_iff_not] at e;simp only[Y.gi,Bool.and_eq_false_iff,decide_eq_false_iff_not];unfold YZ at h;by_cases h0:0≤w
   ·refine .inr ?_;unfold Y.wr;omega
   ·exact .inl (.inl (.inl (by omega)))
  simp[Y.kd,Y.aw,hr]
theorem QY (w:Int):aF (run G) 77 [cv w] H λv H'=>(∃b,v= .tuple #[cv (pk w),cv (pa w),.bool b])∧H'=H:=by
 refine Ev.up (t:=λn=>F77 (run G n) n (cv w) H) ?_ λn=>W0 ..
 have fin:Ur w=false∨Y.gi w=false→Ev (λ_=>some (Value.tuple #[cv 0,cv 0,.bool false],H)) λr=>(∃b,r.1= .tuple #[cv (pk w),cv (pa w),.bool b])∧r.2=H:=λh=>by
  have e1:pk w=0:=by
   unfold pk Y.kd;rcases h with h|h<;>simp[h]
  have e2:pa w=0:=by
   unfold pa Y.aw;rcases h with h|h<;>simp[h]
  rw[e1,e2];exact Ev.ret ⟨⟨false,rfl⟩,rfl⟩
 simp -implicitDefEqProofs only[F77,sS,Nat.reduceAdd];refine Ev.lss (λh1=>?_) (λh1=>?_)<;>try simp -implicitDefEqProofs only[sS,Nat.reduceAdd]
 ·exact fin (.inl (by simp[Ur];omega))
 refine Ev.gtr (λh2=>?_) (λh2=>?_)<;>try simp -implicitDefEqProofs only[sS,Nat.reduceAdd]
 ·exact fin (.inl (by simp[Ur];omega))
 have ed:Int.fdiv w 8=w/8:=by rw[Int.fdiv_eq_ediv_of_nonneg _ (by omega)]
 have ewr:Y.wr (w/8)=w/8:=by unfold Y.wr;omega
 have pU:Ur w=true:=by simp[Ur];omega
 simp -implicitDefEqProofs only[CT,adM,adK w (by omega) (by omega),ed,sS,Nat.reduceAdd]
 refine Ev.is (QX _ _) ?_;cases hm:Fo (w%8) (w/8)<;>simp -implicitDefEqProofs only[sS,Nat.reduceAdd]
 ·simp only[Fo,decide_eq_false_iff_not] at hm;refine fin (.inr ?_);simp only[Y.gi,Bool.and_eq_false_iff,decide_eq_false_iff_not,ewr];omega
 ·simp only[Fo,decide_eq_true_eq] at hm;have hr:Y.gi w=true:=by simp[Y.gi];omega
  exact Ev.ret ⟨⟨true,by simp[pk,pa,pU,Y.kd,Y.aw,hr,ewr]⟩,rfl⟩
theorem Us (w:Int):aF (run G) 31 [cv w] H (Is H (cv (pk w))):=by
 refine Ev.up (t:=λn=>F31 (run G n) n (cv w) H) ?_ λn=>Yd ..
 simp -implicitDefEqProofs only[F31,sS,Nat.reduceAdd];refine Ev.call (QY w) ?_;rintro v H' ⟨⟨b,rfl⟩,rfl⟩;simp -implicitDefEqProofs only[sS,Nat.reduceAdd];exact Ev.ret ⟨rfl,rfl⟩
theorem ptI:Tryz.prog.underlying 149=some (.pointer 2):=by kernel_rfl
theorem slI:Tryz.prog.underlying 42=some (.slice 2):=by kernel_rfl
def zI (H:aa)(o:aj)(pp:Nat)(m:Y.Mm)(cl:Int):Prop:=
 ∃(jH ref:Int) (s:Value) (ty:TypeId),H.get pp=some ⟨[s,cv m.max,cv cl,cv jH,cv ref],ty,1,false⟩∧o pp= -90∧oK H o (-91) s m.cs∧m.cs.length≤m.max∧m.max≤65536
theorem zI.fr {ps:List Int}(h:zI H o pp m cl)(f:Fr H o H' o' ps)(h1:(-90:Int) ∉ ps)(h2:(-91:Int) ∉ ps):zI H' o' pp m cl:=by
 obtain⟨jH,ref,s,ty,g,ho,hs,hl⟩:=h;exact⟨jH,ref,s,ty,by rw[f.same pp (ar g) (by rw[ho];exact h1)];exact g,by rw[f.own pp (ar g)];exact ho,hs.fr f h2,hl⟩
def JP (K:aa→aj→Prop)(pp:Nat)(m:Y.Mm)(cl:Int)(H:aa):Prop:=bL [-90, -91] K∧∃o,zI H o pp m cl∧K H o
theorem JP.Au (h:JP K pp m cl H):m.cs.length≤65536:=by
 obtain⟨_,o,⟨_,_,_,_,_,_,_,h1,h2⟩,_⟩:=h;omega
theorem JP.num (h:JP K pp m cl H): ∃jH ref s ty,H.get pp=some ⟨[s,cv m.max,cv cl,cv jH,cv ref],ty,1,false⟩∧cD s=some (cv m.cs.length)∧∀gR qO qP,JP K pp m gR (H.put pp ⟨[s,cv m.max,cv gR,cv qO,cv qP],ty,1,false⟩):=by
 obtain⟨hK,o,⟨jH,ref,s,ty,g,ho,hs,hl⟩,hk⟩:=h;refine⟨jH,ref,s,ty,g,hs.ints.1.len,λgR qO qP=>⟨hK,o,⟨qO,qP,s,ty,aH g,ho,?_,hl⟩,hK _ _ _ _ hk ?_⟩⟩
 ·exact hs.fr ((Fr.refl H o [-90]).put λ_=>by simp[ho]) (by simp)
 ·exact((Fr.refl H o [-90]).put λ_=>by simp[ho]).wk (by simp)
theorem JP.cell (h:JP K pp m cl H){a:Int}(ha:m.used a): ∃s q j,aq (pv pp) H=some s∧(∀H',cH 1 s (cv (a-1)) H'=some (.pointer (some ⟨q,j,none⟩),H'))∧aq (.pointer (some ⟨q,j,none⟩)) H=some (cv (m.at a))∧
  ∀x:Int,∃H',bD 1 (.pointer (some ⟨q,j,none⟩)) (cv x) H=some (undef,H')∧JP K pp (m.set a x) cl H':=by
 obtain⟨hK,o,⟨jH,ref,s,ty,g,ho,hs,hl⟩,hk⟩:=h;have ha':=ha;unfold Y.Mm.used at ha';obtain⟨j,hj⟩: ∃j:Nat,a-1=j:=⟨(a-1).toNat,by omega⟩
 have AJ:j<m.cs.length:=by omega
 have ej:(a-1).toNat=j:=by omega
 obtain⟨q,b,c,h1,h2,h3,h4,h5,_⟩:=hs.set AJ 0;rw[hj];refine⟨s,q,j,an pp 0 H g,h1,?_,λx=>?_⟩
 ·rw[an q j H h2,h5];unfold Y.Mm.at;rw[if_pos ha,ej]
 obtain⟨q',b',c',k1,k2,k3,k4,k5,k6,k7,k8⟩:=hs.set AJ x;have eq:q'=q:=by
  have a1:=k1 [];have a2:=h1 [];rw[a1] at a2;simpa using a2
 subst eq;have f:Fr H o (H.put q' c') o [-91]:=(Fr.refl H o [-91]).put λ_=>by simp[k4]
 have em:m.set a x=⟨m.cs.set j x,m.max⟩:=by unfold Y.Mm.set;rw[if_pos ha,ej]
 rw[em];refine⟨_,k7,⟨hK,o,⟨jH,ref,s,ty,?_,ho,k8,by simpa using hl⟩,hK _ _ _ _ hk (f.wk (by simp))⟩⟩
 rw[bA (by rintro rfl;rw[ho] at k4;omega)];exact g
abbrev c1 (cl:Int):Int:=IntKind.i64.wrap (cl+1)
theorem HB (h:JP K pp m cl H)(a:Int):aF (run G) 94 [pv pp,cv a] H λv H'=>JP K pp m (c1 cl) H'∧((¬m.used a∧v= .pointer none)∨(m.used a∧∃q j,v= .pointer (some ⟨q,j,none⟩)∧aq (.pointer (some ⟨q,j,none⟩)) H'=some (cv (m.at a))∧
  ∀x:Int,∃H2,bD 1 (.pointer (some ⟨q,j,none⟩)) (cv x) H'=some (undef,H2)∧JP K pp (m.set a x) (c1 cl) H2)):=by
 refine Ev.up (t:=λk=>F94 (run G k) k (pv pp) (cv a) H) ?_ λk=>X1 ..
 obtain⟨jH,ref,s,ty,g,hl,hj⟩:=h.num;obtain⟨H1,e1⟩: ∃z,z=H.put pp ⟨[s,cv m.max,cv (c1 cl),cv jH,cv ref],ty,1,false⟩:=⟨_,rfl⟩;have fH:=hj (c1 cl) jH ref;rw[←e1] at fH;have g1:H1.get pp=some ⟨[s,cv m.max,cv (c1 cl),cv jH,cv ref],ty,1,false⟩:=by rw[e1];exact aH g
 have L2:aq (.pointer (some ⟨pp,2,none⟩)) H=some (cv cl):=an pp 2 H g;have S2:=gY pp 2 (c1 cl) H g rfl (by simp)
 simp only[List.set_cons_succ,List.set_cons_zero] at S2;rw[←e1] at S2;have M1:aq (pv pp) H1=some s:=an pp 0 H1 g1;have M3:aq (.pointer (some ⟨pp,3,none⟩)) H1=some (cv jH):=an pp 3 H1 g1;have S3:=gY pp 3 (IntKind.i64.wrap (jH+1)) H1 g1 rfl (by simp)
 simp only[List.set_cons_succ,List.set_cons_zero] at S3;have fI:JP K pp m (c1 cl) (H1.put pp ⟨[s,cv m.max,cv (c1 cl),cv (IntKind.i64.wrap (jH+1)),cv ref],ty,1,false⟩):=by
  obtain⟨o2,r2,s2,mT,g2,_,fI⟩:=fH.num;rw[g1] at g2;cases g2;exact fI _ _ _
 simp -implicitDefEqProofs only[F94,L2,S2,sS,Nat.reduceAdd];refine Ev.lss (λhq=>?_) (λhq=>?_)<;>try simp -implicitDefEqProofs only[M1,hl,M3,S3,Nat.add_zero,sS,Nat.reduceAdd]
 ·exact Ev.ret ⟨fI,.inl ⟨by unfold Y.Mm.used;omega,rfl⟩⟩
 refine Ev.gtr (λhq=>?_) (λhq=>?_)<;>try simp -implicitDefEqProofs only[M1,M3,S3,Nat.add_zero,sS,Nat.reduceAdd]
 ·exact Ev.ret ⟨fI,.inl ⟨by unfold Y.Mm.used;omega,rfl⟩⟩
 ·have hu:m.used a:=by unfold Y.Mm.used;omega
  obtain⟨s',q,j,k1,k2,k3,k4⟩:=fH.cell hu;rw[M1] at k1;cases k1;have hw:IntKind.i64.wrap (a-1)=a-1:=gz (by have:=h.Au;omega)
  simp -implicitDefEqProofs only[hw,k2,sS,Nat.reduceAdd];exact Ev.ret ⟨fH,.inr ⟨hu,q,j,rfl,k3,k4⟩⟩
theorem Ut (h:JP K pp m cl H)(a:Int):aF (run G) 67 [pv pp,cv a] H λv H'=>v=cv (m.at a)∧JP K pp m (c1 cl) H':=by
 refine Ev.up (t:=λk=>F67 (run G k) k (pv pp) (cv a) H) ?_ λk=>YN ..
 simp -implicitDefEqProofs only[F67,sS,Nat.reduceAdd];refine Ev.call (HB h a) ?_;rintro v H' ⟨hj,⟨hu,rfl⟩|⟨hu,q,j,rfl,k3,k4⟩⟩
 ·simp -implicitDefEqProofs only[mf _ ptI,Option.isNone_none,sS,Nat.reduceAdd];exact Ev.ret ⟨by rw[JE hu],hj⟩
 ·simp -implicitDefEqProofs only[mf _ ptI,Option.isNone_some,CU,k3,sS,Nat.reduceAdd];exact Ev.ret ⟨rfl,hj⟩
theorem QZ (h:JP K pp m cl H)(a x:Int):aF (run G) 78 [pv pp,cv a,cv x] H λv H'=>JP K pp (m.set a x) (c1 cl) H':=by
 refine Ev.up (t:=λk=>F78 (run G k) k (pv pp) (cv a) (cv x) H) ?_ λk=>Xw ..
 simp -implicitDefEqProofs only[F78,sS,Nat.reduceAdd];refine Ev.call (HB h a) ?_;rintro v H' ⟨hj,⟨hu,rfl⟩|⟨hu,q,j,rfl,k3,k4⟩⟩
 ·simp -implicitDefEqProofs only[uE _ ptI,Option.isSome_none,sS,Nat.reduceAdd];refine Ev.ret ?_;have:m.set a x=m:=by unfold Y.Mm.set;rw[if_neg hu]
  rw[this];exact hj
 ·obtain⟨H2,k5,k6⟩:=k4 x;simp -implicitDefEqProofs only[uE _ ptI,Option.isSome_some,CU,k5,sS,Nat.reduceAdd];exact Ev.ret k6
theorem ZZ (h:JP K pp m cl H)(a x y:Int):aF (run G) 66 [pv pp,cv a,cv x,cv y] H λv H'=>v= .bool (decide ((Y.dC m (.cs a x y)).1=1))∧JP K pp (Y.dC m (.cs a x y)).2 (c1 cl) H':=by
 refine Ev.up (t:=λk=>F66 (run G k) k (pv pp) (cv a) (cv x) (cv y) H) ?_ λk=>Xu ..
 simp -implicitDefEqProofs only[F66,sS,Nat.reduceAdd];refine Ev.call (HB h a) ?_;rintro v H' ⟨hj,⟨hu,rfl⟩|⟨hu,q,j,rfl,k3,k4⟩⟩
 ·simp -implicitDefEqProofs only[mf _ ptI,Option.isNone_none,sS,Nat.reduceAdd];refine Ev.ret ?_;have:Y.dC m (.cs a x y)=(0,m):=by simp only[Y.dC];rw[if_neg (λh=>hu h.1)]
  rw[this];exact⟨rfl,hj⟩
 ·obtain⟨H2,k5,k6⟩:=k4 y;simp -implicitDefEqProofs only[mf _ ptI,Option.isNone_some,CU,k3,sS,Nat.reduceAdd];refine Ev.neq (λhq=>?_) (λhq=>?_)<;>try simp -implicitDefEqProofs only[CU,k5,sS,Nat.reduceAdd]
  ·refine Ev.ret ?_;have:Y.dC m (.cs a x y)=(0,m):=by simp only[Y.dC];rw[if_neg (λh=>hq h.2)]
   rw[this];exact⟨rfl,hj⟩
  ·refine Ev.ret ?_;have:Y.dC m (.cs a x y)=(1,m.set a y):=by simp only[Y.dC];rw[if_pos ⟨hu,hq⟩]
   rw[this];exact⟨rfl,k6⟩
theorem Z0 (h:JP K pp m cl H)(a:Int):aF (run G) 32 [pv pp,cv a] H (Is H (cv (m.at a))):=by
 refine Ev.up (t:=λk=>F32 (run G k) k (pv pp) (cv a) H) ?_ λk=>XG ..
 obtain⟨jH,ref,s,ty,g,hl,_⟩:=h.num;have M1:aq (pv pp) H=some s:=an pp 0 H g;simp -implicitDefEqProofs only[F32,sS,Nat.reduceAdd];refine Ev.lss (λhq=>?_) (λhq=>?_)<;>try simp -implicitDefEqProofs only[M1,hl,Nat.add_zero,sS,Nat.reduceAdd]
 ·exact Ev.ret ⟨by rw[JE (by unfold Y.Mm.used;omega)],rfl⟩
 refine Ev.gtr (λhq=>?_) (λhq=>?_)<;>try simp -implicitDefEqProofs only[M1,Nat.add_zero,sS,Nat.reduceAdd]
 ·exact Ev.ret ⟨by rw[JE (by unfold Y.Mm.used;omega)],rfl⟩
 ·obtain⟨s',q,j,k1,k2,k3,_⟩:=h.cell (show m.used a by unfold Y.Mm.used;omega)
  rw[M1] at k1;cases k1;have hw:IntKind.i64.wrap (a-1)=a-1:=gz (by have:=h.Au;omega)
  simp -implicitDefEqProofs only[hw,k2,k3,sS,Nat.reduceAdd];exact Ev.ret ⟨rfl,rfl⟩
theorem JS (h:JP K pp m cl H):aF (run G) 54 [pv pp] H (Is H (cv m.cs.length)):=by
 refine Ev.up (t:=λk=>F54 (run G k) k (pv pp) H) ?_ λk=>Xd ..
 obtain⟨jH,ref,s,ty,g,hl,_⟩:=h.num;have M1:aq (pv pp) H=some s:=an pp 0 H g;simp -implicitDefEqProofs only[F54,M1,hl,Nat.add_zero,sS,Nat.reduceAdd];exact Ev.ret ⟨rfl,rfl⟩
theorem Uu (h:JP K pp m cl H):aF (run G) 91 [pv pp] H (Is H (cv m.max)):=by
 refine Ev.up (t:=λk=>F91 (run G k) k (pv pp) H) ?_ λk=>Yk ..
 obtain⟨jH,ref,s,ty,g,hl,_⟩:=h.num;have M1:aq (.pointer (some ⟨pp,1,none⟩)) H=some (cv m.max):=an pp 1 H g;simp -implicitDefEqProofs only[F91,M1,sS,Nat.reduceAdd];exact Ev.ret ⟨rfl,rfl⟩
end
section
open Go.Proofs.YtgfgglponbmgmaaGreatA
variable {G:ae} {H H':aa} {o o':aj} {p c pp mp xp yp f i:Nat} {K:aa→aj→Prop} {x:Value} {m m' mP:Y.Mm} {cl:Int} {th:jy} {L:List jV} {N M:Nat}
theorem Dp (h:JP K pp m cl H){w:Value}{lw:List Int}(hw:eJ H w lw)(Zx:lw≠[]→∀a n c,w= .slice (some a) n c→a.block≠pp):aF (run G) 64 [pv pp,w] H λv H'=>v= .tuple #[cv (Y.dC m (.mk lw)).1,.bool (decide ((Y.dC m (.mk lw)).1>0))]∧JP K pp (Y.dC m (.mk lw)).2 (c1 cl) H':=by
 refine Ev.up (t:=λk=>F64 (run G k) k (pv pp) w H) ?_ λk=>YM ..
 obtain⟨jH,ref,s,ty,g,hl,hj⟩:=h.num;obtain⟨H1,e1⟩: ∃z,z=H.put pp ⟨[s,cv m.max,cv (c1 cl),cv jH,cv ref],ty,1,false⟩:=⟨_,rfl⟩;have fH:=hj (c1 cl) jH ref;rw[←e1] at fH;have g1:H1.get pp=some ⟨[s,cv m.max,cv (c1 cl),cv jH,cv ref],ty,1,false⟩:=by rw[e1];exact aH g
 have L2:aq (.pointer (some ⟨pp,2,none⟩)) H=some (cv cl):=an pp 2 H g;have S2:=gY pp 2 (c1 cl) H g rfl (by simp)
 simp only[List.set_cons_succ,List.set_cons_zero] at S2;rw[←e1] at S2;have M0:aq (pv pp) H1=some s:=an pp 0 H1 g1;have M1:aq (.pointer (some ⟨pp,1,none⟩)) H1=some (cv m.max):=an pp 1 H1 g1;have M4:aq (.pointer (some ⟨pp,4,none⟩)) H1=some (cv ref):=an pp 4 H1 g1;have S4:=gY pp 4 (IntKind.i64.wrap (ref+1)) H1 g1 rfl (by simp)
 simp only[List.set_cons_succ,List.set_cons_zero] at S4;have fI:JP K pp m (c1 cl) (H1.put pp ⟨[s,cv m.max,cv (c1 cl),cv jH,cv (IntKind.i64.wrap (ref+1))],ty,1,false⟩):=by
  obtain⟨o2,r2,s2,mT,g2,_,fI⟩:=fH.num;rw[g1] at g2;cases g2;exact fI _ _ _
 have DP:eJ H1 w lw:=by
  refine hw.keep λi b e dx=>?_
  rw[e1,bA (Zx dx b _ _ e)]
 have TY:=h.Au;obtain⟨hK,o,⟨qO,qP,s',Be,g',ho,hs,Nu⟩,hk⟩:=id fH;rw[g1] at g';obtain⟨rfl,rfl,rfl,rfl⟩:s'=s∧qO=jH∧qP=ref∧Be=ty:=by
  injection g' with g';injection g' with a b c d;injection a with a1 a2;injection a2 with a3 a4;injection a4 with a5 a6;injection a6 with a7 a8;injection a8 with a9 a10;injection a7 with _ a7;injection a9 with _ a9;exact⟨a1.symm,a7.symm,a9.symm,b.symm⟩
 simp -implicitDefEqProofs only[F64,L2,S2,hw.len,sS,Nat.reduceAdd];refine Ev.eql (λhq=>?_) (λhq=>?_)<;>try simp -implicitDefEqProofs only[hw.len,M0,M1,M4,S4,hl,Nat.add_zero,sS,Nat.reduceAdd]
 ·refine Ev.ret ?_;have:Y.dC m (.mk lw)=(0,m):=by simp only[Y.dC];rw[if_pos (.inl (List.length_eq_zero_iff.1 (by omega)))]
  rw[this];exact⟨rfl,fI⟩
 have hw9:IntKind.i64.wrap ((m.max:Int)-m.cs.length)=m.max-m.cs.length:=gz (by omega)
 simp -implicitDefEqProofs only[hw9,sS,Nat.reduceAdd];refine Ev.gtr (λkE=>?_) (λkE=>?_)<;>try simp -implicitDefEqProofs only[M0,M1,M4,S4,hl,Nat.add_zero,sS,Nat.reduceAdd]
 ·refine Ev.ret ?_;have:Y.dC m (.mk lw)=(0,m):=by simp only[Y.dC];rw[if_pos (.inr (by omega))]
  rw[this];exact⟨rfl,fI⟩
 have hmk:Y.dC m (.mk lw)=((m.cs.length:Int)+1,⟨m.cs++lw,m.max⟩):=by
  simp only[Y.dC];rw[if_neg (by
   rintro(h|h)
   ·subst h;simp at hq
   ·omega)]
 obtain⟨x',H2,o2,a2,s2,f2,k2⟩:=j9 2 hs DP (by omega)
 have g2:H2.get pp=some ⟨[s',cv m.max,cv (c1 cl),cv qO,cv qP],Be,1,false⟩:=by rw[f2.same pp (ar g1) (by rw[ho];simp)];exact g1
 have Dx:o2 pp= -90:=by rw[f2.own pp (ar g1)];exact ho
 obtain⟨ba,bc,ex⟩:=s2.isSlice;have S1:=GR pp 0 ba (m.cs++lw).length bc H2 g2 rfl (by simp)
 rw[←ex] at S1;simp only[List.set_cons_succ,List.set_cons_zero] at S1;have hwa:IntKind.i64.wrap ((m.cs.length:Int)+1)=(m.cs.length:Int)+1:=gz (by omega)
 simp -implicitDefEqProofs only[a2,S1,hwa,sS,Nat.reduceAdd];have f3:Fr H2 o2 (H2.put pp ⟨[x',cv m.max,cv (c1 cl),cv qO,cv qP],Be,1,false⟩) o2 [-90]:=(Fr.refl H2 o2 [-90]).put λ_=>by simp[Dx]
 refine Ev.ret ?_;rw[hmk];refine⟨?_,hK,o2,⟨_,_,x',Be,aH g2,Dx,s2.fr f3 (by simp),by simp;omega,Nu.2⟩,hK _ _ _ _ hk (f2.trans f3 (by simp) (by simp))⟩
 have:decide ((m.cs.length:Int)+1>0)=true:=decide_eq_true (by omega)
 simp only[this]
theorem HC (a:Int):aE Tryz.prog 126 [(1,cv a)]=some (.agg #[aA,cv a,cv 0,cv 0,cv 0]):=by kernel_rfl
theorem Dq (a:Int)(H:aa):dK 126 (.agg #[aA,cv a,cv 0,cv 0,cv 0]) H=some (pv H.length,H.new ⟨[aA,cv a,cv 0,cv 0,cv 0],126,1,false⟩):=by
 simp[dK,Value.cells,aC,aS]
theorem Z1 {mx:Nat}(hc:1≤mx∧mx≤65536):aF (run G) 62 [cv mx] H λv H'=>v= .tuple #[pv H.length,cv 0]∧H'=H.new ⟨[aA,cv mx,cv 0,cv 0,cv 0],126,1,false⟩:=by
 refine Ev.up (t:=λk=>F62 (run G k) k (cv mx) H) ?_ λk=>XJ ..
 simp -implicitDefEqProofs only[F62,HC,Dq,sS,Nat.reduceAdd];refine Ev.lss (λhq=>?_) (λhq=>?_)<;>try simp -implicitDefEqProofs only[HC,Dq,sS,Nat.reduceAdd]
 ·omega
 refine Ev.gtr (λhq=>?_) (λhq=>?_)<;>try simp -implicitDefEqProofs only[HC,Dq,sS,Nat.reduceAdd]
 ·omega
 exact Ev.ret ⟨rfl,rfl⟩
theorem Z2 (hm:lL H o mp m)(h1:1≤m.cs.length):aF (run G) 56 [pv mp] H λv H'=>∃pp o' cl,v=pv pp∧Fr H o H' o' [-90, -91]∧zI H' o' pp m cl:=by
 refine Ev.up (t:=λk=>F56 (run G k) k (pv mp) H) ?_ λk=>Yt ..
 have TY:=hm.Au;obtain⟨cl,jH,ref,s,ty,g,ho,hs,hl⟩:=id hm;have L0:aq (pv mp) H=some (cv m.max):=an mp 0 H g;simp -implicitDefEqProofs only[F56,L0,Nat.add_zero,sS,Nat.reduceAdd];refine Ev.call (Z1 (mx:=m.max) (by omega)) ?_
 rintro v H1 ⟨rfl,e1⟩;have f1:Fr H o H1 (o.up H.length (-90)) []:=by rw[e1];exact(Fr.refl _ _ _).new _ _
 have g1:H1.get mp=some ⟨[cv m.max,s,cv cl,cv jH,cv ref],ty,1,false⟩:=by rw[f1.same mp (ar g) (by simp)];exact g
 have L1:aq (.pointer (some ⟨mp,1,none⟩)) H1=some s:=an mp 1 H1 g1;have hp0:zI H1 (o.up H.length (-90)) H.length ⟨[],m.max⟩ 0:=⟨0,0,aA,126,by rw[e1];exact aK,aO,.inl ⟨rfl,rfl⟩,by simp,by show m.max≤65536;omega⟩
 have hjp:JP (λH' o'=>Fr H1 (o.up H.length (-90)) H' o' [-90, -91]) H.length ⟨[],m.max⟩ 0 H1:=⟨bL.base (by simp),_,hp0,Fr.refl _ _ _⟩
 have NG:dy H1 (o.up H.length (-90)) (-71) s m.cs:=hs.ints.fr f1 (by simp)
 simp -implicitDefEqProofs only[L1,sS,Nat.reduceAdd];refine Ev.call (Dp hjp NG.1 λdx a n c e hh=>?_) ?_
 ·have:=(NG.2 a n c e dx).2
  rw[hh,aO] at this;omega
 rintro v H2 ⟨rfl,_,o2,Gd,f2⟩;have hd:(Y.dC ⟨[],m.max⟩ (.mk m.cs)).2=m:=by
  simp only[Y.dC];rw[if_neg (by
   rintro(h|h)
   ·rw[h] at h1;simp at h1
   ·simp at h;omega)]
  rfl
 rw[hd] at Gd
 try simp -implicitDefEqProofs only[sS,Nat.reduceAdd]
 exact Ev.ret ⟨H.length,o2,_,rfl,f1.trans f2 (by simp) (λ_ h=>h),Gd⟩
def YR (H:aa)(o:aj)(yp xp pp mp:Nat)(mP m:Y.Mm)(cl:Int)(th:jy)(L:List jV):Prop:=
 (∃ty,H.get yp=some ⟨[pv pp,pv xp],ty,1,false⟩)∧o yp= -95∧WR H o xp mp m th L∧zI H o pp mP cl
abbrev yt:List Int:= -90:: -91:: -95::wt
theorem YR.fr {ps:List Int}(h:YR H o yp xp pp mp mP m cl th L)(f:Fr H o H' o' ps)(hp: ∀z∈ps,z ∉ (-41:Int)::yt):YR H' o' yp xp pp mp mP m cl th L:=by
 obtain⟨⟨ty,g⟩,ho,hw,hm⟩:=h;have np: ∀z∈(-41:Int)::yt,z ∉ ps:=λz hz hh=>hp z hh hz
 exact⟨⟨ty,by rw[f.same yp (ar g) (by rw[ho];exact np _ (by simp))];exact g⟩,by rw[f.own yp (ar g)];exact ho,hw.uJ f λz hz hh=>hp z hz (by
  rcases List.mem_cons.1 hh with rfl|hh
  ·simp
  ·exact List.mem_cons_of_mem _ (List.mem_cons_of_mem _ (List.mem_cons_of_mem _ (List.mem_cons_of_mem _ hh)))),hm.fr f (np _ (by simp)) (np _ (by simp))⟩
theorem YR.ld (h:YR H o yp xp pp mp mP m cl th L):aq (pv yp) H=some (pv pp)∧aq (.pointer (some ⟨yp,1,none⟩)) H=some (pv xp)∧aq (.pointer (some ⟨xp,3,none⟩)) H=some (pv mp):=by
 obtain⟨⟨ty,g⟩,ho,hw,hm⟩:=h;obtain⟨tb,cap,inv,dG,e3,_⟩:=hw.n7;exact⟨an yp 0 H g,an yp 1 H g,e3⟩
theorem YR.Dr (h:YR H o yp xp pp mp mP m cl th L):lL H o mp m:=by
 obtain⟨_,_,hw,_⟩:=h;obtain⟨_,_,_,_,_,_,_,_,_,_,_,_,_,_,_,hm,_⟩:=hw;exact hm
theorem YR.adN (h:YR H o yp xp pp mp mP m cl th L)(f:Fr H o H' o' [-70, -71])(hm:lL H' o' mp m'):YR H' o' yp xp pp mp mP m' cl th L:=by
 obtain⟨⟨ty,g⟩,ho,hw,hp⟩:=h;exact⟨⟨ty,by rw[f.same yp (ar g) (by rw[ho];simp)];exact g⟩,by rw[f.own yp (ar g)];exact ho,hw.mem f hm,hp.fr f (by simp) (by simp)⟩
theorem YR.acm (h:YR H o yp xp pp mp mP m cl th L){gR:Int}(f:Fr H o H' o' [-90, -91])(hm:zI H' o' pp m' gR):YR H' o' yp xp pp mp m' m gR th L:=by
 obtain⟨⟨ty,g⟩,ho,hw,hp⟩:=h;exact⟨⟨ty,by rw[f.same yp (ar g) (by rw[ho];simp)];exact g⟩,by rw[f.own yp (ar g)];exact ho,hw.uJ f (by simp),hm⟩
theorem YR.jp (h:YR H o yp xp pp mp mP m cl th L):JP (λH' o'=>Fr H o H' o' [-90, -91]) pp mP cl H:=⟨bL.base (by simp),o,h.2.2.2,Fr.refl _ _ _⟩
theorem YR.jm (h:YR H o yp xp pp mp mP m cl th L):JM (λH' o'=>Fr H o H' o' [-70, -71]) mp m H:=⟨bL.base (by simp),o,h.Dr,Fr.refl _ _ _⟩
theorem Z3 (a b:Nat):aE Tryz.prog 57 [(0,pv a),(1,pv b)]=some (.agg #[pv a,pv b]):=by kernel_rfl
theorem Uv (a b:Nat)(H:aa):dK 57 (.agg #[pv a,pv b]) H=some (pv H.length,H.new ⟨[pv a,pv b],57,1,false⟩):=by
 simp[dK,Value.cells,aC,aS]
theorem TG.len {G:Y.Ga}(h:TG G th m):1≤m.cs.length:=by
 have:=h.inv.room _ _ h.root.1
 simp[Y.Rec.size] at this;omega
theorem Z4 (c:Int){ky x:Value}{ks zs:List Int}(hky:sL H ky ks)(hkr:dy H o (-1) ky ks)(hx:dy H o (-1) x zs)(hz:zs.length≤maxLen):aF (run G) 12 [cv c,ky,x] H λv H'=>∃yp xp pp mp o' m cl th L,v=pv yp∧Fr H o H' o' yt∧YR H' o' yp xp pp mp m m cl th L∧Inv th L 211 1680∧TI th m:=by
 refine Ev.up (t:=λn=>F12 (run G n) n (cv c) ky x H) ?_ λn=>Yr ..
 simp -implicitDefEqProofs only[F12,sS,Nat.reduceAdd];refine Ev.call (Uq c hky hkr hx hz) ?_;rintro v H1 ⟨xp,mp,o1,m,th,L,rfl,f1,hw,hI,hT⟩;obtain⟨tb,cap,inv,dG,e3,_⟩:=hw.n7;have hm:lL H1 o1 mp m:=by
  obtain⟨_,_,_,_,_,_,_,_,_,_,_,_,_,_,_,hm,_⟩:=id hw;exact hm
 obtain⟨G0,hG⟩:=id hT;simp -implicitDefEqProofs only[e3,sS,Nat.reduceAdd];refine Ev.call (Z2 hm hG.len) ?_;rintro v H2 ⟨pp,o2,cl,rfl,f2,hp⟩;obtain⟨H3,mC⟩: ∃z,z=H2.new ⟨[pv pp,pv xp],57,1,false⟩:=⟨_,rfl⟩;have bx:=Uv pp xp H2;rw[←mC] at bx;have f3:Fr H2 o2 H3 (o2.up H2.length (-95)) []:=by rw[mC];exact(Fr.refl _ _ _).new _ _
 simp -implicitDefEqProofs only[Z3,bx,sS,Nat.reduceAdd];refine Ev.ret ⟨H2.length,xp,pp,mp,_,m,cl,th,L,rfl,(f1.trans f2 (rs:=yt) (λz hz=>by simp at hz ⊢;omega) (by simp)).trans f3 (λ_ h=>h) (by simp),⟨⟨_,by rw[mC];exact aK⟩,aO,(hw.uJ f2 (by simp)).uJ f3 (by simp),hp.fr f3 (by simp) (by simp)⟩,hI,hT⟩
theorem JT (m:Y.Mm)(q:Y.Ask):m.cs.length≤(Y.dC m q).2.cs.length∧(Y.dC m q).2.max=m.max:=by
 cases q with
 |rd a=>exact⟨Nat.le_refl _,rfl⟩
 |wr a x=>simp[Y.dC]
 |cs a o x=>simp only[Y.dC];split<;>simp
 |ad a d=>simp only[Y.dC];split<;>simp
 |mk w=>simp only[Y.dC];split<;>simp
theorem sJ.len {im:jy}(h:sJ i th m im m'):m.cs.length≤m'.cs.length∧m'.max=m.max:=by
 obtain⟨jI,_,⟨_,_,rfl⟩|⟨_,done,T',b,hs,_⟩⟩:=h
 ·exact⟨Nat.le_refl _,rfl⟩
 rcases hs with⟨_,_,rfl⟩|⟨_,hs⟩
 ·exact⟨Nat.le_refl _,rfl⟩
 cases e:(th i).pr with
 |rd=>rw[e] at hs;obtain⟨rfl,_⟩:=hs;exact⟨Nat.le_refl _,rfl⟩
 |ex t=>rw[e] at hs;obtain⟨q,k,_,_,rfl⟩:=hs;exact JT m q
theorem Nb {a b:List Int}{j:Nat}(h1:j<a.length)(h2:j<b.length):(a.take j++b.drop j).set j (a.getD j 0)=a.take (j+1)++b.drop (j+1):=by
 have hl:(a.take j).length=j:=by simp;omega
 rw[List.set_append_right _ _ (by omega),hl,Nat.sub_self,List.drop_eq_getElem_cons h2,List.set_cons_zero, ←List.take_append_getElem h1]
 simp only[List.getD_eq_getElem?_getD,List.getElem?_eq_getElem h1,Option.getD_some,List.append_assoc,List.cons_append,List.nil_append]
theorem Fp (h:YR H o yp xp pp mp mP m cl th L)(hle:mP.cs.length≤m.cs.length)(Nu:mP.max=m.max):aF (run G) 37 [pv yp] H λv H'=>∃o' gR,Fr H o H' o' [-90, -91]∧YR H' o' yp xp pp mp m m gR th L:=by
 refine Ev.up (t:=λn=>F37 (run G n) n (pv yp) H) ?_ λn=>WW ..
 obtain⟨a0,a1,a2⟩:=h.ld;have TY:=h.Dr.Au;simp -implicitDefEqProofs only[F37,a0,Nat.add_zero,sS,Nat.reduceAdd];refine Ev.is (JS h.jp) ?_
 try simp -implicitDefEqProofs only[sS,Nat.reduceAdd]
 have acn: ∀{Hx:aa} {ox:aj} {mz:Y.Mm} {cz:Int},YR Hx ox yp xp pp mp mz m cz th L→∃s,aq (pv yp) Hx=some (pv pp)∧aq (.pointer (some ⟨yp,1,none⟩)) Hx=some (pv xp)∧aq (.pointer (some ⟨xp,3,none⟩)) Hx=some (pv mp)∧aq (.pointer (some ⟨mp,1,none⟩)) Hx=some s∧cD s=some (cv m.cs.length)∧dy Hx ox (-71) s m.cs∧sL Hx s m.cs∧oj s s=true:=λhy=>by
  obtain⟨b0,b1,b2⟩:=hy.ld;obtain⟨_,_,_,s,ty,g,_,hs,_⟩:=hy.Dr;refine⟨s,b0,b1,b2,an mp 1 _ g,hs.ints.1.len,hs.ints,⟨hs.ints.1,λa n c e=>?_⟩,oK.oj hs⟩
  rcases hs with⟨e1,e2⟩|⟨q,cap,rest,Be,e1,_,e3,_⟩
  ·rw[e2];exact Nat.zero_le _
  ·rw[e1] at e;cases e;omega
 refine Ev.loop (k:=mP.cs.length) (λkk vs Hx=>∃(j:Nat) (ox:aj) (cz:Int) (cg cL nM:Value),vs=[pv yp,cv j,cv mP.cs.length,cg,cL,nM]∧j+kk=mP.cs.length∧Fr H o Hx ox [-90, -91]∧YR Hx ox yp xp pp mp ⟨m.cs.take j++mP.cs.drop j,m.max⟩ m cz th L)
  (λr=>r.1= .exit 0∧∃(ox:aj) (cz:Int) (x3 cg cL nM:Value),r.2.1=[pv yp,x3,cv mP.cs.length,cg,cL,nM]∧Fr H o r.2.2 ox [-90, -91]∧YR r.2.2 ox yp xp pp mp ⟨m.cs.take mP.cs.length,m.max⟩ m cz th L)
  ⟨0,o,cl,_,_,_,rfl,by omega,Fr.refl _ _ _,by simpa[←Nu] using h⟩ ?_ ?_
 ·rintro kk vs Hx ⟨j,ox,cz,cg,cL,nM,rfl,hj,hf,hy⟩;obtain⟨s,b0,b1,b2,b3,b4,b5,b6,b7⟩:=acn hy;have hw:IntKind.i64.wrap ((j:Int)+1)=((j+1:Nat):Int):=by rw[gz (by omega)];omega
  simp -implicitDefEqProofs only[OB,Ce,sS,Nat.reduceAdd];refine Ev.lss (λhq=>?_) (λhq=>?_)<;>try simp -implicitDefEqProofs only[b1,b2,b3,b4,sS,Nat.reduceAdd]
  rotate_left
  ·have:j=mP.cs.length:=by omega
   subst this;refine Ev.ret (.inr ⟨by simp,rfl,ox,cz,_,_,_,_,rfl,hf,?_⟩)
   simpa using hy
  refine Ev.lss (λkE=>?_) (λkE=>?_)<;>try simp -implicitDefEqProofs only[hw,b0,Nat.add_zero,sS,Nat.reduceAdd]
  rotate_left
  ·omega
  have zZ:j<m.cs.length:=by omega
  have hjP:j<mP.cs.length:=by omega
  refine Ev.is (Z0 hy.jp ((j+1:Nat):Int)) ?_;obtain⟨qi,off,b,e1,e2,e3⟩:=b5.1.idx zZ;have e4:aq (.pointer (some ⟨qi,off,none⟩)) Hx=some (cv (m.cs.getD j 0)):=(an qi off Hx e2).trans e3;have iP: ∀{Hy:aa} {oy:aj} {cy:Int} (cg cL nM:Value),Fr Hx ox Hy oy [-90, -91]→YR Hy oy yp xp pp mp ⟨m.cs.take (j+1)++mP.cs.drop (j+1),m.max⟩ m cy th L→Ev (λn=>Cd (run G n) n [pv yp,cv j,cv mP.cs.length,cg,cL,nM] Hy) λr=>(r.1= .normal∧∃k',k'<kk∧∃(j:Nat) (ox:aj) (cz:Int) (cg cL nM:Value),r.2.1=[pv yp,cv j,cv mP.cs.length,cg,cL,nM]∧j+k'=mP.cs.length∧Fr H o r.2.2 ox [-90, -91]∧YR r.2.2 ox yp xp pp mp ⟨m.cs.take j++mP.cs.drop j,m.max⟩ m cz th L)∨(r.1≠ .normal∧r.1= .exit 0∧∃(ox:aj) (cz:Int) (x3 cg cL nM:Value),r.2.1=[pv yp,x3,cv mP.cs.length,cg,cL,nM]∧Fr H o r.2.2 ox [-90, -91]∧YR r.2.2 ox yp xp pp mp ⟨m.cs.take mP.cs.length,m.max⟩ m cz th L):=by
   intro Hy oy cy cg cL nM f1 h1;simp -implicitDefEqProofs only[Oz,Cc,hw,sS,Nat.reduceAdd];exact Ev.ret (.inl ⟨rfl,kk-1,by omega,j+1,oy,cy,_,_,_,rfl,by omega,hf.tr f1,h1⟩)
  have hat:(Y.Mm.mk (m.cs.take j++mP.cs.drop j) m.max).at ((j+1:Nat):Int)=mP.cs.getD j 0:=by
   have hl:(m.cs.take j).length=j:=by simp;omega
   unfold Y.Mm.at;rw[if_pos (by unfold Y.Mm.used;simp;omega),show(((j+1:Nat):Int)-1).toNat=j by omega]
   simp only[List.getD_eq_getElem?_getD];rw[List.getElem?_append_right (by omega),hl,Nat.sub_self,List.getElem?_drop,Nat.add_zero]
  have u3:=Nb (a:=m.cs) (b:=mP.cs) zZ hjP;rw[hat];simp -implicitDefEqProofs only[b1,b2,b3,e1,e4,iX,b7,sS,Nat.reduceAdd];refine Ev.neq (λVQ=>?_) (λVQ=>?_)<;>try simp -implicitDefEqProofs only[b0,b1,b2,b3,e1,e4,hw,Nat.add_zero,sS,Nat.reduceAdd]
  ·refine Ev.call (QZ hy.jp ((j+1:Nat):Int) (m.cs.getD j 0)) ?_;rintro v Hy ⟨_,oy,hpy,fy⟩;have em:(Y.Mm.mk (m.cs.take j++mP.cs.drop j) m.max).set ((j+1:Nat):Int) (m.cs.getD j 0)=⟨m.cs.take (j+1)++mP.cs.drop (j+1),m.max⟩:=by
    unfold Y.Mm.set;rw[if_pos (by unfold Y.Mm.used;simp;omega),show(((j+1:Nat):Int)-1).toNat=j by omega,u3]
   rw[em] at hpy;exact iP _ _ _ fy (hy.acm fy hpy)
  ·have ee:m.cs.take (j+1)++mP.cs.drop (j+1)=m.cs.take j++mP.cs.drop j:=by
    rw[←u3, ←VQ];apply List.ext_getElem?;intro k;have hl:(m.cs.take j).length=j:=by simp;omega
    by_cases e:j=k
    ·subst e;rw[List.getElem?_set_self (by simp;omega),List.getElem?_append_right (by omega),hl,Nat.sub_self,List.getElem?_drop]
     simp[List.getD_eq_getElem?_getD,hjP]
    ·rw[List.getElem?_set_ne e]
   exact iP _ _ _ (Fr.refl _ _ _) (by rw[ee];exact hy)
 ·rintro e vs Hx ⟨he,ox,cz,x3,cg,cL,nM,rfl,hf,hy⟩;simp only at he;subst he;obtain⟨s,b0,b1,b2,b3,b4,b5,b6,b7⟩:=acn hy;simp -implicitDefEqProofs only[OD,Cg,b1,b2,b3,b4,sS,Nat.reduceAdd];refine Ev.lss (λhq=>?_) (λhq=>?_)<;>try simp -implicitDefEqProofs only[b0,b1,b2,b3,Nat.add_zero,sS,Nat.reduceAdd]
  ·obtain⟨y,VB,c2,c3⟩:=b6.cut (k:=mP.cs.length) (j:=m.cs.length) (by omega) (Nat.le_refl _) (by intro e;rw[e] at hq;simp at hq;omega) (lo:=some (cv mP.cs.length)) (hi:=none) (by simp[di,qk]) rfl
   simp -implicitDefEqProofs only[VB,sS,Nat.reduceAdd];have hd:(m.cs.take m.cs.length).drop mP.cs.length=m.cs.drop mP.cs.length:=by rw[List.take_length]
   rw[hd] at c2;refine Ev.call (Dp hy.jp c2 λ_ a n c e hh=>?_) ?_
   ·obtain⟨a',n',c',e',eb⟩:=c3 a n c e;have dx:m.cs≠[]:=by intro e;rw[e] at hq;simp at hq;omega
    have:=(b5.2 a' n' c' e' dx).2
    obtain⟨_,_,_,_,_,ho,_⟩:=hy.2.2.2;rw[←eb,hh,ho] at this;omega
   rintro v H2 ⟨rfl,_,o2,Gd,f2⟩;have em:(Y.dC ⟨m.cs.take mP.cs.length,m.max⟩ (.mk (m.cs.drop mP.cs.length))).2=m:=by
    simp only[Y.dC];rw[if_neg (by
     rintro(h|h)
     ·have:=congrArg List.length h;simp at this;omega
     ·simp at h;omega)]
    simp
   rw[em] at Gd
   try simp -implicitDefEqProofs only[sS,Nat.reduceAdd]
   exact Ev.ret ⟨o2,_,hf.tr f2,hy.acm f2 Gd⟩
  ·have em:(Y.Mm.mk (m.cs.take mP.cs.length) m.max)=m:=by rw[List.take_of_length_le (by omega)]
   rw[em] at hy;exact Ev.ret ⟨ox,cz,hf,hy⟩
end
end Go.Proofs.YtgfgglponbmgmaaGreat.Fun
end
