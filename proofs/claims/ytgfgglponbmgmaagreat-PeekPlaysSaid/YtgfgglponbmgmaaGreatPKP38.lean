/- Texts of the proof of peekPlays_holds, put together by a small program of ours (names shortened, spaces taken out). No condition beyond the given statement. -/
import Derived.Test.YtgfgglponbmgmaaGreatPKP11
import Derived.Test.YtgfgglponbmgmaaGreatPKP12
import Derived.Test.YtgfgglponbmgmaaGreatPKP10
import Derived.Test.YtgfgglponbmgmaaGreatPKP15
import Derived.Test.YtgfgglponbmgmaaGreatPKP13
import Derived.Test.YtgfgglponbmgmaaGreatPKP17
import Derived.Test.YtgfgglponbmgmaaGreatPKP14
import Derived.Test.YtgfgglponbmgmaaGreatPKP37
import Derived.IntWalk
import Derived.Laws.BitsLemmas
import Derived.Test.YtgfgglponbmgmaaGreatPKP16
set_option linter.unusedVariables false
set_option linter.unusedSimpArgs false
set_option linter.unnecessarySimpa false
noncomputable section
section
namespace Go.Proofs.YtgfgglponbmgmaaGreat.Fun
open Go Go.RowKit Go.Proofs.YtgfgglponbmgmaaGreatA.Am
set_option maxRecDepth 10000
section
open Go.Proofs.YtgfgglponbmgmaaGreatA
variable {G:ae} {H H':aa} {o o':aj} {p c pp f i:Nat} {K:aa→aj→Prop} {x:Value} {m m':Y.Mm} {bY:Int}
theorem TB (n:Int)(aef:0≤n)(h₁:n<2^63):IntKind.i64.wrap n=n:=by rw[IntKind.wrap_i64];omega
theorem adT (x:Int)(h0:0≤x)(h1:x<2^63):Go.bits .and .i64 x 7=x%8:=
 bits_mask .i64 63 (by decide) TB 3 (by decide) x h0 h1
theorem adU (t:TypeId)(a:Int):ai Tryz.prog .shr t (cv a) (.int .u64 3)=some (cv (a.fdiv 8)):=rfl
def P8 (a b:Int):Bool:=decide (1≤a∧a≤5∧1≤b∧b≤65536)
theorem YT (a b:Int):aF (run G) 79 [cv a,cv b] H (Is H (.bool (P8 a b))):=by
 refine Ev.up (t:=λn=>F79 (run G n) n (cv a) (cv b) H) ?_ λn=>Xe ..
 simp -implicitDefEqProofs only[F79,sS,Nat.reduceAdd];repeat' (first| (refine Ev.ret ⟨?_,rfl⟩;refine congrArg Value.bool ?_;simp[P8];omega)| ((with_reducible first|refine Ev.leq (λhq=>?_) (λhq=>?_)|refine Ev.geq (λhq=>?_) (λhq=>?_))<;>try simp -implicitDefEqProofs only[sS,Nat.reduceAdd]))
def P9 (w:Int):Bool:=decide (0≤w∧w≤524296)
def pk (w:Int):Int:=if P9 w then Y.kd w else 0
def pa (w:Int):Int:=if P9 w then Y.aw w else 0
theorem aeg {w:Int}(h:XW w):pk w=Y.kd w∧pa w=Y.aw w:=by
 unfold pk pa;cases e:P9 w with
 |true=>exact⟨rfl,rfl⟩
 |false=>
  have hr:Y.eX w=false:=by
   simp only[P9,decide_eq_false_iff_not] at e;simp only[Y.eX,Bool.and_eq_false_iff,decide_eq_false_iff_not];unfold XW at h;by_cases h0:0≤w
   ·refine .inr ?_;unfold Y.wr;omega
   ·exact .inl (.inl (.inl (by omega)))
  simp[Y.kd,Y.aw,hr]
theorem Vb (w:Int): -9223372036854775808≤pa w∧pa w≤65536:=by
 unfold pa;split
 ·exact Y.nQ w
 ·omega
theorem EZ (w:Int):aF (run G) 77 [cv w] H λv H'=>(∃b,v= .tuple #[cv (pk w),cv (pa w),.bool b])∧H'=H:=by
 refine Ev.up (t:=λn=>F77 (run G n) n (cv w) H) ?_ λn=>Wd ..
 have fin:P9 w=false∨Y.eX w=false→Ev (λ_=>some (Value.tuple #[cv 0,cv 0,.bool false],H)) λr=>(∃b,r.1= .tuple #[cv (pk w),cv (pa w),.bool b])∧r.2=H:=λh=>by
  have e1:pk w=0:=by
   unfold pk Y.kd;rcases h with h|h<;>simp[h]
  have e2:pa w=0:=by
   unfold pa Y.aw;rcases h with h|h<;>simp[h]
  rw[e1,e2];exact Ev.ret ⟨⟨false,rfl⟩,rfl⟩
 simp -implicitDefEqProofs only[F77,sS,Nat.reduceAdd];refine Ev.lss (λh1=>?_) (λh1=>?_)<;>try simp -implicitDefEqProofs only[sS,Nat.reduceAdd]
 ·exact fin (.inl (by simp[P9];omega))
 refine Ev.gtr (λh2=>?_) (λh2=>?_)<;>try simp -implicitDefEqProofs only[sS,Nat.reduceAdd]
 ·exact fin (.inl (by simp[P9];omega))
 have ed:Int.fdiv w 8=w/8:=by rw[Int.fdiv_eq_ediv_of_nonneg _ (by omega)]
 have ewr:Y.wr (w/8)=w/8:=by unfold Y.wr;omega
 have pY:P9 w=true:=by simp[P9];omega
 simp -implicitDefEqProofs only[CM,adU,adT w (by omega) (by omega),ed,sS,Nat.reduceAdd]
 refine Ev.is (YT _ _) ?_;cases hm:P8 (w%8) (w/8)<;>simp -implicitDefEqProofs only[sS,Nat.reduceAdd]
 ·simp only[P8,decide_eq_false_iff_not] at hm;refine fin (.inr ?_);simp only[Y.eX,Bool.and_eq_false_iff,decide_eq_false_iff_not,ewr];omega
 ·simp only[P8,decide_eq_true_eq] at hm;have hr:Y.eX w=true:=by simp[Y.eX];omega
  exact Ev.ret ⟨⟨true,by simp[pk,pa,pY,Y.kd,Y.aw,hr,ewr]⟩,rfl⟩
theorem TC (w:Int):aF (run G) 31 [cv w] H (Is H (cv (pk w))):=by
 refine Ev.up (t:=λn=>F31 (run G n) n (cv w) H) ?_ λn=>Xa ..
 simp -implicitDefEqProofs only[F31,sS,Nat.reduceAdd];refine Ev.call (EZ w) ?_;rintro v H' ⟨⟨b,rfl⟩,rfl⟩;simp -implicitDefEqProofs only[sS,Nat.reduceAdd];exact Ev.ret ⟨rfl,rfl⟩
theorem abR (w:Int):aF (run G) 76 [cv w] H (Is H (cv (pa w))):=by
 refine Ev.up (t:=λn=>F76 (run G n) n (cv w) H) ?_ λn=>Wu ..
 simp -implicitDefEqProofs only[F76,sS,Nat.reduceAdd];refine Ev.call (EZ w) ?_;rintro v H' ⟨⟨b,rfl⟩,rfl⟩;simp -implicitDefEqProofs only[sS,Nat.reduceAdd];exact Ev.ret ⟨rfl,rfl⟩
theorem ptI:Tryz.prog.underlying 149=some (.pointer 2):=by kernel_rfl
theorem slI:Tryz.prog.underlying 42=some (.slice 2):=by kernel_rfl
def zy (H:aa)(o:aj)(pp:Nat)(m:Y.Mm)(bY:Int):Prop:=
 ∃(jD ref:Int) (s:Value) (ty:TypeId),H.get pp=some ⟨[s,cv m.max,cv bY,cv jD,cv ref],ty,1,false⟩∧o pp= -90∧oM H o (-91) s m.cs∧m.cs.length≤m.max∧m.max≤65536
theorem zy.fr {ps:List Int}(h:zy H o pp m bY)(f:Fr H o H' o' ps)(h1:(-90:Int) ∉ ps)(h2:(-91:Int) ∉ ps):zy H' o' pp m bY:=by
 obtain⟨jD,ref,s,ty,g,ho,hs,hl⟩:=h;exact⟨jD,ref,s,ty,by rw[f.same pp (ar g) (by rw[ho];exact h1)];exact g,by rw[f.own pp (ar g)];exact ho,hs.fr f h2,hl⟩
def JP (K:aa→aj→Prop)(pp:Nat)(m:Y.Mm)(bY:Int)(H:aa):Prop:=bK [-90, -91] K∧∃o,zy H o pp m bY∧K H o
theorem JP.Al (h:JP K pp m bY H):m.cs.length≤65536:=by
 obtain⟨_,o,⟨_,_,_,_,_,_,_,h1,h2⟩,_⟩:=h;omega
theorem JP.num (h:JP K pp m bY H): ∃jD ref s ty,H.get pp=some ⟨[s,cv m.max,cv bY,cv jD,cv ref],ty,1,false⟩∧cC s=some (cv m.cs.length)∧∀fS qM qN,JP K pp m fS (H.put pp ⟨[s,cv m.max,cv fS,cv qM,cv qN],ty,1,false⟩):=by
 obtain⟨hK,o,⟨jD,ref,s,ty,g,ho,hs,hl⟩,hk⟩:=h;refine⟨jD,ref,s,ty,g,hs.ints.1.len,λfS qM qN=>⟨hK,o,⟨qM,qN,s,ty,aG g,ho,?_,hl⟩,hK _ _ _ _ hk ?_⟩⟩
 ·exact hs.fr ((Fr.refl H o [-90]).put λ_=>by simp[ho]) (by simp)
 ·exact((Fr.refl H o [-90]).put λ_=>by simp[ho]).wk (by simp)
theorem JP.cell (h:JP K pp m bY H){a:Int}(ha:m.used a): ∃s q j,aq (pv pp) H=some s∧(∀H',cG 1 s (cv (a-1)) H'=some (.pointer (some ⟨q,j,none⟩),H'))∧aq (.pointer (some ⟨q,j,none⟩)) H=some (cv (m.at a))∧
  ∀x:Int,∃H',bE 1 (.pointer (some ⟨q,j,none⟩)) (cv x) H=some (undef,H')∧JP K pp (m.set a x) bY H':=by
 obtain⟨hK,o,⟨jD,ref,s,ty,g,ho,hs,hl⟩,hk⟩:=h;have ha':=ha;unfold Y.Mm.used at ha';obtain⟨j,hj⟩: ∃j:Nat,a-1=j:=⟨(a-1).toNat,by omega⟩
 have AB:j<m.cs.length:=by omega
 have ej:(a-1).toNat=j:=by omega
 obtain⟨q,b,c,h1,h2,h3,h4,h5,_⟩:=hs.set AB 0;rw[hj];refine⟨s,q,j,an pp 0 H g,h1,?_,λx=>?_⟩
 ·rw[an q j H h2,h5];unfold Y.Mm.at;rw[if_pos ha,ej]
 obtain⟨q',b',c',k1,k2,k3,k4,k5,k6,k7,k8⟩:=hs.set AB x;have eq:q'=q:=by
  have a1:=k1 [];have a2:=h1 [];rw[a1] at a2;simpa using a2
 subst eq;have f:Fr H o (H.put q' c') o [-91]:=(Fr.refl H o [-91]).put λ_=>by simp[k4]
 have em:m.set a x=⟨m.cs.set j x,m.max⟩:=by unfold Y.Mm.set;rw[if_pos ha,ej]
 rw[em];refine⟨_,k7,⟨hK,o,⟨jD,ref,s,ty,?_,ho,k8,by simpa using hl⟩,hK _ _ _ _ hk (f.wk (by simp))⟩⟩
 rw[bz (by rintro rfl;rw[ho] at k4;omega)];exact g
abbrev c1 (bY:Int):Int:=IntKind.i64.wrap (bY+1)
theorem Qa (h:JP K pp m bY H)(a:Int):aF (run G) 94 [pv pp,cv a] H λv H'=>JP K pp m (c1 bY) H'∧((¬m.used a∧v= .pointer none)∨(m.used a∧∃q j,v= .pointer (some ⟨q,j,none⟩)∧aq (.pointer (some ⟨q,j,none⟩)) H'=some (cv (m.at a))∧
  ∀x:Int,∃H2,bE 1 (.pointer (some ⟨q,j,none⟩)) (cv x) H'=some (undef,H2)∧JP K pp (m.set a x) (c1 bY) H2)):=by
 refine Ev.up (t:=λk=>F94 (run G k) k (pv pp) (cv a) H) ?_ λk=>WY ..
 obtain⟨jD,ref,s,ty,g,hl,hj⟩:=h.num;obtain⟨H1,e1⟩: ∃z,z=H.put pp ⟨[s,cv m.max,cv (c1 bY),cv jD,cv ref],ty,1,false⟩:=⟨_,rfl⟩;have fG:=hj (c1 bY) jD ref;rw[←e1] at fG;have g1:H1.get pp=some ⟨[s,cv m.max,cv (c1 bY),cv jD,cv ref],ty,1,false⟩:=by rw[e1];exact aG g
 have L2:aq (.pointer (some ⟨pp,2,none⟩)) H=some (cv bY):=an pp 2 H g;have S2:=gX pp 2 (c1 bY) H g rfl (by simp)
 simp only[List.set_cons_succ,List.set_cons_zero] at S2;rw[←e1] at S2;have M1:aq (pv pp) H1=some s:=an pp 0 H1 g1;have M3:aq (.pointer (some ⟨pp,3,none⟩)) H1=some (cv jD):=an pp 3 H1 g1;have S3:=gX pp 3 (IntKind.i64.wrap (jD+1)) H1 g1 rfl (by simp)
 simp only[List.set_cons_succ,List.set_cons_zero] at S3;have fM:JP K pp m (c1 bY) (H1.put pp ⟨[s,cv m.max,cv (c1 bY),cv (IntKind.i64.wrap (jD+1)),cv ref],ty,1,false⟩):=by
  obtain⟨o2,r2,s2,mQ,g2,_,fM⟩:=fG.num;rw[g1] at g2;cases g2;exact fM _ _ _
 simp -implicitDefEqProofs only[F94,L2,S2,sS,Nat.reduceAdd];refine Ev.lss (λhq=>?_) (λhq=>?_)<;>try simp -implicitDefEqProofs only[M1,hl,M3,S3,Nat.add_zero,sS,Nat.reduceAdd]
 ·exact Ev.ret ⟨fM,.inl ⟨by unfold Y.Mm.used;omega,rfl⟩⟩
 refine Ev.gtr (λhq=>?_) (λhq=>?_)<;>try simp -implicitDefEqProofs only[M1,M3,S3,Nat.add_zero,sS,Nat.reduceAdd]
 ·exact Ev.ret ⟨fM,.inl ⟨by unfold Y.Mm.used;omega,rfl⟩⟩
 ·have hu:m.used a:=by unfold Y.Mm.used;omega
  obtain⟨s',q,j,k1,k2,k3,k4⟩:=fG.cell hu;rw[M1] at k1;cases k1;have hw:IntKind.i64.wrap (a-1)=a-1:=fZ (by have:=h.Al;omega)
  simp -implicitDefEqProofs only[hw,k2,sS,Nat.reduceAdd];exact Ev.ret ⟨fG,.inr ⟨hu,q,j,rfl,k3,k4⟩⟩
theorem TD (h:JP K pp m bY H)(a:Int):aF (run G) 67 [pv pp,cv a] H λv H'=>v=cv (m.at a)∧JP K pp m (c1 bY) H':=by
 refine Ev.up (t:=λk=>F67 (run G k) k (pv pp) (cv a) H) ?_ λk=>XM ..
 simp -implicitDefEqProofs only[F67,sS,Nat.reduceAdd];refine Ev.call (Qa h a) ?_;rintro v H' ⟨hj,⟨hu,rfl⟩|⟨hu,q,j,rfl,k3,k4⟩⟩
 ·simp -implicitDefEqProofs only[uu _ ptI,Option.isNone_none,sS,Nat.reduceAdd];exact Ev.ret ⟨by rw[I5 hu],hj⟩
 ·simp -implicitDefEqProofs only[uu _ ptI,Option.isNone_some,ON,k3,sS,Nat.reduceAdd];exact Ev.ret ⟨rfl,hj⟩
theorem Qb (h:JP K pp m bY H)(a x:Int):aF (run G) 78 [pv pp,cv a,cv x] H λv H'=>JP K pp (m.set a x) (c1 bY) H':=by
 refine Ev.up (t:=λk=>F78 (run G k) k (pv pp) (cv a) (cv x) H) ?_ λk=>VZ ..
 simp -implicitDefEqProofs only[F78,sS,Nat.reduceAdd];refine Ev.call (Qa h a) ?_;rintro v H' ⟨hj,⟨hu,rfl⟩|⟨hu,q,j,rfl,k3,k4⟩⟩
 ·simp -implicitDefEqProofs only[uw _ ptI,Option.isSome_none,sS,Nat.reduceAdd];refine Ev.ret ?_;have:m.set a x=m:=by unfold Y.Mm.set;rw[if_neg hu]
  rw[this];exact hj
 ·obtain⟨H2,k5,k6⟩:=k4 x;simp -implicitDefEqProofs only[uw _ ptI,Option.isSome_some,ON,k5,sS,Nat.reduceAdd];exact Ev.ret k6
theorem YU (h:JP K pp m bY H)(a:Int):aF (run G) 32 [pv pp,cv a] H (Is H (cv (m.at a))):=by
 refine Ev.up (t:=λk=>F32 (run G k) k (pv pp) (cv a) H) ?_ λk=>WE ..
 obtain⟨jD,ref,s,ty,g,hl,_⟩:=h.num;have M1:aq (pv pp) H=some s:=an pp 0 H g;simp -implicitDefEqProofs only[F32,sS,Nat.reduceAdd];refine Ev.lss (λhq=>?_) (λhq=>?_)<;>try simp -implicitDefEqProofs only[M1,hl,Nat.add_zero,sS,Nat.reduceAdd]
 ·exact Ev.ret ⟨by rw[I5 (by unfold Y.Mm.used;omega)],rfl⟩
 refine Ev.gtr (λhq=>?_) (λhq=>?_)<;>try simp -implicitDefEqProofs only[M1,Nat.add_zero,sS,Nat.reduceAdd]
 ·exact Ev.ret ⟨by rw[I5 (by unfold Y.Mm.used;omega)],rfl⟩
 ·obtain⟨s',q,j,k1,k2,k3,_⟩:=h.cell (show m.used a by unfold Y.Mm.used;omega)
  rw[M1] at k1;cases k1;have hw:IntKind.i64.wrap (a-1)=a-1:=fZ (by have:=h.Al;omega)
  simp -implicitDefEqProofs only[hw,k2,k3,sS,Nat.reduceAdd];exact Ev.ret ⟨rfl,rfl⟩
theorem Jg (h:JP K pp m bY H):aF (run G) 54 [pv pp] H (Is H (cv m.cs.length)):=by
 refine Ev.up (t:=λk=>F54 (run G k) k (pv pp) H) ?_ λk=>Wo ..
 obtain⟨jD,ref,s,ty,g,hl,_⟩:=h.num;have M1:aq (pv pp) H=some s:=an pp 0 H g;simp -implicitDefEqProofs only[F54,M1,hl,Nat.add_zero,sS,Nat.reduceAdd];exact Ev.ret ⟨rfl,rfl⟩
theorem TE (h:JP K pp m bY H):aF (run G) 91 [pv pp] H (Is H (cv m.max)):=by
 refine Ev.up (t:=λk=>F91 (run G k) k (pv pp) H) ?_ λk=>Xh ..
 obtain⟨jD,ref,s,ty,g,hl,_⟩:=h.num;have M1:aq (.pointer (some ⟨pp,1,none⟩)) H=some (cv m.max):=an pp 1 H g;simp -implicitDefEqProofs only[F91,M1,sS,Nat.reduceAdd];exact Ev.ret ⟨rfl,rfl⟩
end
section
open Go.Proofs.YtgfgglponbmgmaaGreatA
variable {G:ae} {H H':aa} {o o':aj} {p c pp mp xp yp f i:Nat} {K:aa→aj→Prop} {x:Value} {m m' mP:Y.Mm} {bY:Int} {th:jc} {L:List jE} {N M:Nat}
theorem Jh (h:JP K pp m bY H){w:Value}{lw:List Int}(hw:eM H w lw)(Yr:lw≠[]→∀a n c,w= .slice (some a) n c→a.block≠pp):aF (run G) 64 [pv pp,w] H λv H'=>v= .tuple #[cv (Y.dT m (.mk lw)).1,.bool (decide ((Y.dT m (.mk lw)).1>0))]∧JP K pp (Y.dT m (.mk lw)).2 (c1 bY) H':=by
 refine Ev.up (t:=λk=>F64 (run G k) k (pv pp) w H) ?_ λk=>XL ..
 obtain⟨jD,ref,s,ty,g,hl,hj⟩:=h.num;obtain⟨H1,e1⟩: ∃z,z=H.put pp ⟨[s,cv m.max,cv (c1 bY),cv jD,cv ref],ty,1,false⟩:=⟨_,rfl⟩;have fG:=hj (c1 bY) jD ref;rw[←e1] at fG;have g1:H1.get pp=some ⟨[s,cv m.max,cv (c1 bY),cv jD,cv ref],ty,1,false⟩:=by rw[e1];exact aG g
 have L2:aq (.pointer (some ⟨pp,2,none⟩)) H=some (cv bY):=an pp 2 H g;have S2:=gX pp 2 (c1 bY) H g rfl (by simp)
 simp only[List.set_cons_succ,List.set_cons_zero] at S2;rw[←e1] at S2;have M0:aq (pv pp) H1=some s:=an pp 0 H1 g1;have M1:aq (.pointer (some ⟨pp,1,none⟩)) H1=some (cv m.max):=an pp 1 H1 g1;have M4:aq (.pointer (some ⟨pp,4,none⟩)) H1=some (cv ref):=an pp 4 H1 g1;have S4:=gX pp 4 (IntKind.i64.wrap (ref+1)) H1 g1 rfl (by simp)
 simp only[List.set_cons_succ,List.set_cons_zero] at S4;have fM:JP K pp m (c1 bY) (H1.put pp ⟨[s,cv m.max,cv (c1 bY),cv jD,cv (IntKind.i64.wrap (ref+1))],ty,1,false⟩):=by
  obtain⟨o2,r2,s2,mQ,g2,_,fM⟩:=fG.num;rw[g1] at g2;cases g2;exact fM _ _ _
 have BL:eM H1 w lw:=by
  refine hw.keep λi b e dz=>?_
  rw[e1,bz (Yr dz b _ _ e)]
 have S9:=h.Al;obtain⟨hK,o,⟨qM,qN,s',A8,g',ho,hs,MQ⟩,hk⟩:=id fG;rw[g1] at g';obtain⟨rfl,rfl,rfl,rfl⟩:s'=s∧qM=jD∧qN=ref∧A8=ty:=by
  injection g' with g';injection g' with a b c d;injection a with a1 a2;injection a2 with a3 a4;injection a4 with a5 a6;injection a6 with a7 a8;injection a8 with a9 a10;injection a7 with _ a7;injection a9 with _ a9;exact⟨a1.symm,a7.symm,a9.symm,b.symm⟩
 simp -implicitDefEqProofs only[F64,L2,S2,hw.len,sS,Nat.reduceAdd];refine Ev.eql (λhq=>?_) (λhq=>?_)<;>try simp -implicitDefEqProofs only[hw.len,M0,M1,M4,S4,hl,Nat.add_zero,sS,Nat.reduceAdd]
 ·refine Ev.ret ?_;have:Y.dT m (.mk lw)=(0,m):=by simp only[Y.dT];rw[if_pos (.inl (List.length_eq_zero_iff.1 (by omega)))]
  rw[this];exact⟨rfl,fM⟩
 have hw9:IntKind.i64.wrap ((m.max:Int)-m.cs.length)=m.max-m.cs.length:=fZ (by omega)
 simp -implicitDefEqProofs only[hw9,sS,Nat.reduceAdd];refine Ev.gtr (λkB=>?_) (λkB=>?_)<;>try simp -implicitDefEqProofs only[M0,M1,M4,S4,hl,Nat.add_zero,sS,Nat.reduceAdd]
 ·refine Ev.ret ?_;have:Y.dT m (.mk lw)=(0,m):=by simp only[Y.dT];rw[if_pos (.inr (by omega))]
  rw[this];exact⟨rfl,fM⟩
 have hmk:Y.dT m (.mk lw)=((m.cs.length:Int)+1,⟨m.cs++lw,m.max⟩):=by
  simp only[Y.dT];rw[if_neg (by
   rintro(h|h)
   ·subst h;simp at hq
   ·omega)]
 obtain⟨x',H2,o2,a2,s2,f2,k2⟩:=jY 2 hs BL (by omega)
 have g2:H2.get pp=some ⟨[s',cv m.max,cv (c1 bY),cv qM,cv qN],A8,1,false⟩:=by rw[f2.same pp (ar g1) (by rw[ho];simp)];exact g1
 have Di:o2 pp= -90:=by rw[f2.own pp (ar g1)];exact ho
 obtain⟨ba,bc,ex⟩:=s2.isSlice;have S1:=Gm pp 0 ba (m.cs++lw).length bc H2 g2 rfl (by simp)
 rw[←ex] at S1;simp only[List.set_cons_succ,List.set_cons_zero] at S1;have hwa:IntKind.i64.wrap ((m.cs.length:Int)+1)=(m.cs.length:Int)+1:=fZ (by omega)
 simp -implicitDefEqProofs only[a2,S1,hwa,sS,Nat.reduceAdd];have f3:Fr H2 o2 (H2.put pp ⟨[x',cv m.max,cv (c1 bY),cv qM,cv qN],A8,1,false⟩) o2 [-90]:=(Fr.refl H2 o2 [-90]).put λ_=>by simp[Di]
 refine Ev.ret ?_;rw[hmk];refine⟨?_,hK,o2,⟨_,_,x',A8,aG g2,Di,s2.fr f3 (by simp),by simp;omega,MQ.2⟩,hK _ _ _ _ hk (f2.trans f3 (by simp) (by simp))⟩
 have:decide ((m.cs.length:Int)+1>0)=true:=decide_eq_true (by omega)
 simp only[this]
theorem GU (a:Int):aE Tryz.prog 126 [(1,cv a)]=some (.agg #[aA,cv a,cv 0,cv 0,cv 0]):=by kernel_rfl
theorem Dd (a:Int)(H:aa):dJ 126 (.agg #[aA,cv a,cv 0,cv 0,cv 0]) H=some (pv H.length,H.new ⟨[aA,cv a,cv 0,cv 0,cv 0],126,1,false⟩):=by
 simp[dJ,Value.cells,aD,aS]
theorem YV {mx:Nat}(hc:1≤mx∧mx≤65536):aF (run G) 62 [cv mx] H λv H'=>v= .tuple #[pv H.length,cv 0]∧H'=H.new ⟨[aA,cv mx,cv 0,cv 0,cv 0],126,1,false⟩:=by
 refine Ev.up (t:=λk=>F62 (run G k) k (cv mx) H) ?_ λk=>WH ..
 simp -implicitDefEqProofs only[F62,GU,Dd,sS,Nat.reduceAdd];refine Ev.lss (λhq=>?_) (λhq=>?_)<;>try simp -implicitDefEqProofs only[GU,Dd,sS,Nat.reduceAdd]
 ·omega
 refine Ev.gtr (λhq=>?_) (λhq=>?_)<;>try simp -implicitDefEqProofs only[GU,Dd,sS,Nat.reduceAdd]
 ·omega
 exact Ev.ret ⟨rfl,rfl⟩
theorem YW (hm:lJ H o mp m)(h1:1≤m.cs.length):aF (run G) 56 [pv mp] H λv H'=>∃pp o' bY,v=pv pp∧Fr H o H' o' [-90, -91]∧zy H' o' pp m bY:=by
 refine Ev.up (t:=λk=>F56 (run G k) k (pv mp) H) ?_ λk=>Xr ..
 have S9:=hm.Al;obtain⟨bY,jD,ref,s,ty,g,ho,hs,hl⟩:=id hm;have L0:aq (pv mp) H=some (cv m.max):=an mp 0 H g;simp -implicitDefEqProofs only[F56,L0,Nat.add_zero,sS,Nat.reduceAdd];refine Ev.call (YV (mx:=m.max) (by omega)) ?_
 rintro v H1 ⟨rfl,e1⟩;have f1:Fr H o H1 (o.up H.length (-90)) []:=by rw[e1];exact(Fr.refl _ _ _).new _ _
 have g1:H1.get mp=some ⟨[cv m.max,s,cv bY,cv jD,cv ref],ty,1,false⟩:=by rw[f1.same mp (ar g) (by simp)];exact g
 have L1:aq (.pointer (some ⟨mp,1,none⟩)) H1=some s:=an mp 1 H1 g1;have hp0:zy H1 (o.up H.length (-90)) H.length ⟨[],m.max⟩ 0:=⟨0,0,aA,126,by rw[e1];exact aL,aP,.inl ⟨rfl,rfl⟩,by simp,by show m.max≤65536;omega⟩
 have hjp:JP (λH' o'=>Fr H1 (o.up H.length (-90)) H' o' [-90, -91]) H.length ⟨[],m.max⟩ 0 H1:=⟨bK.base (by simp),_,hp0,Fr.refl _ _ _⟩
 have Ha:du H1 (o.up H.length (-90)) (-71) s m.cs:=hs.ints.fr f1 (by simp)
 simp -implicitDefEqProofs only[L1,sS,Nat.reduceAdd];refine Ev.call (Jh hjp Ha.1 λdz a n c e hh=>?_) ?_
 ·have:=(Ha.2 a n c e dz).2
  rw[hh,aP] at this;omega
 rintro v H2 ⟨rfl,_,o2,FN,f2⟩;have hd:(Y.dT ⟨[],m.max⟩ (.mk m.cs)).2=m:=by
  simp only[Y.dT];rw[if_neg (by
   rintro(h|h)
   ·rw[h] at h1;simp at h1
   ·simp at h;omega)]
  rfl
 rw[hd] at FN
 try simp -implicitDefEqProofs only[sS,Nat.reduceAdd]
 exact Ev.ret ⟨H.length,o2,_,rfl,f1.trans f2 (by simp) (λ_ h=>h),FN⟩
def YR (H:aa)(o:aj)(yp xp pp mp:Nat)(mP m:Y.Mm)(bY:Int)(th:jc)(L:List jE):Prop:=
 (∃ty,H.get yp=some ⟨[pv pp,pv xp],ty,1,false⟩)∧o yp= -95∧WR H o xp mp m th L∧zy H o pp mP bY
abbrev yt:List Int:= -90:: -91:: -95::wt
theorem YR.fr {ps:List Int}(h:YR H o yp xp pp mp mP m bY th L)(f:Fr H o H' o' ps)(hp: ∀z∈ps,z ∉ (-41:Int)::yt):YR H' o' yp xp pp mp mP m bY th L:=by
 obtain⟨⟨ty,g⟩,ho,hw,hm⟩:=h;have np: ∀z∈(-41:Int)::yt,z ∉ ps:=λz hz hh=>hp z hh hz
 exact⟨⟨ty,by rw[f.same yp (ar g) (by rw[ho];exact np _ (by simp))];exact g⟩,by rw[f.own yp (ar g)];exact ho,hw.uz f λz hz hh=>hp z hz (by
  rcases List.mem_cons.1 hh with rfl|hh
  ·simp
  ·exact List.mem_cons_of_mem _ (List.mem_cons_of_mem _ (List.mem_cons_of_mem _ (List.mem_cons_of_mem _ hh)))),hm.fr f (np _ (by simp)) (np _ (by simp))⟩
theorem YR.ld (h:YR H o yp xp pp mp mP m bY th L):aq (pv yp) H=some (pv pp)∧aq (.pointer (some ⟨yp,1,none⟩)) H=some (pv xp)∧aq (.pointer (some ⟨xp,3,none⟩)) H=some (pv mp):=by
 obtain⟨⟨ty,g⟩,ho,hw,hm⟩:=h;obtain⟨tb,cap,inv,dD,e3,_⟩:=hw.n7;exact⟨an yp 0 H g,an yp 1 H g,e3⟩
theorem YR.An (h:YR H o yp xp pp mp mP m bY th L):lJ H o mp m:=by
 obtain⟨_,_,hw,_⟩:=h;obtain⟨_,_,_,_,_,_,_,_,_,_,_,_,_,_,_,hm,_⟩:=hw;exact hm
theorem YR.adV (h:YR H o yp xp pp mp mP m bY th L)(f:Fr H o H' o' [-70, -71])(hm:lJ H' o' mp m'):YR H' o' yp xp pp mp mP m' bY th L:=by
 obtain⟨⟨ty,g⟩,ho,hw,hp⟩:=h;exact⟨⟨ty,by rw[f.same yp (ar g) (by rw[ho];simp)];exact g⟩,by rw[f.own yp (ar g)];exact ho,hw.mem f hm,hp.fr f (by simp) (by simp)⟩
theorem YR.abS (h:YR H o yp xp pp mp mP m bY th L){fS:Int}(f:Fr H o H' o' [-90, -91])(hm:zy H' o' pp m' fS):YR H' o' yp xp pp mp m' m fS th L:=by
 obtain⟨⟨ty,g⟩,ho,hw,hp⟩:=h;exact⟨⟨ty,by rw[f.same yp (ar g) (by rw[ho];simp)];exact g⟩,by rw[f.own yp (ar g)];exact ho,hw.uz f (by simp),hm⟩
theorem YR.jp (h:YR H o yp xp pp mp mP m bY th L):JP (λH' o'=>Fr H o H' o' [-90, -91]) pp mP bY H:=⟨bK.base (by simp),o,h.2.2.2,Fr.refl _ _ _⟩
theorem YR.jm (h:YR H o yp xp pp mp mP m bY th L):JM (λH' o'=>Fr H o H' o' [-70, -71]) mp m H:=⟨bK.base (by simp),o,h.An,Fr.refl _ _ _⟩
theorem YX (a b:Nat):aE Tryz.prog 57 [(0,pv a),(1,pv b)]=some (.agg #[pv a,pv b]):=by kernel_rfl
theorem TF (a b:Nat)(H:aa):dJ 57 (.agg #[pv a,pv b]) H=some (pv H.length,H.new ⟨[pv a,pv b],57,1,false⟩):=by
 simp[dJ,Value.cells,aD,aS]
theorem TG.len {G:Y.Ga}(h:TG G th m):1≤m.cs.length:=by
 have:=h.inv.room _ _ h.root.1
 simp[Y.Rec.size] at this;omega
theorem YY (c:Int){ky x:Value}{ks zs:List Int}(hky:sI H ky ks)(hkr:du H o (-1) ky ks)(hx:du H o (-1) x zs)(hz:zs.length≤maxLen):aF (run G) 12 [cv c,ky,x] H λv H'=>∃yp xp pp mp o' m bY th L,v=pv yp∧Fr H o H' o' yt∧YR H' o' yp xp pp mp m m bY th L∧Inv th L 211 1680∧TI th m:=by
 refine Ev.up (t:=λn=>F12 (run G n) n (cv c) ky x H) ?_ λn=>Xo ..
 simp -implicitDefEqProofs only[F12,sS,Nat.reduceAdd];refine Ev.call (TA c hky hkr hx hz) ?_;rintro v H1 ⟨xp,mp,o1,m,th,L,rfl,f1,hw,hI,hT⟩;obtain⟨tb,cap,inv,dD,e3,_⟩:=hw.n7;have hm:lJ H1 o1 mp m:=by
  obtain⟨_,_,_,_,_,_,_,_,_,_,_,_,_,_,_,hm,_⟩:=id hw;exact hm
 obtain⟨G0,hG⟩:=id hT;simp -implicitDefEqProofs only[e3,sS,Nat.reduceAdd];refine Ev.call (YW hm hG.len) ?_;rintro v H2 ⟨pp,o2,bY,rfl,f2,hp⟩;obtain⟨H3,mA⟩: ∃z,z=H2.new ⟨[pv pp,pv xp],57,1,false⟩:=⟨_,rfl⟩;have bx:=TF pp xp H2;rw[←mA] at bx;have f3:Fr H2 o2 H3 (o2.up H2.length (-95)) []:=by rw[mA];exact(Fr.refl _ _ _).new _ _
 simp -implicitDefEqProofs only[YX,bx,sS,Nat.reduceAdd];refine Ev.ret ⟨H2.length,xp,pp,mp,_,m,bY,th,L,rfl,(f1.trans f2 (rs:=yt) (λz hz=>by simp at hz ⊢;omega) (by simp)).trans f3 (λ_ h=>h) (by simp),⟨⟨_,by rw[mA];exact aL⟩,aP,(hw.uz f2 (by simp)).uz f3 (by simp),hp.fr f3 (by simp) (by simp)⟩,hI,hT⟩
theorem vX (m:Y.Mm)(q:Y.Ask):m.cs.length≤(Y.dT m q).2.cs.length∧(Y.dT m q).2.max=m.max:=by
 cases q with
 |rd a=>exact⟨Nat.le_refl _,rfl⟩
 |wr a x=>simp[Y.dT]
 |cs a o x=>simp only[Y.dT];split<;>simp
 |ad a d=>simp only[Y.dT];split<;>simp
 |mk w=>simp only[Y.dT];split<;>simp
theorem sG.len {hZ:jc}(h:sG i th m hZ m'):m.cs.length≤m'.cs.length∧m'.max=m.max:=by
 obtain⟨js,_,⟨_,_,rfl⟩|⟨_,done,T',b,hs,_⟩⟩:=h
 ·exact⟨Nat.le_refl _,rfl⟩
 rcases hs with⟨_,_,rfl⟩|⟨_,hs⟩
 ·exact⟨Nat.le_refl _,rfl⟩
 cases e:(th i).pr with
 |rd=>rw[e] at hs;obtain⟨rfl,_⟩:=hs;exact⟨Nat.le_refl _,rfl⟩
 |ex t=>rw[e] at hs;obtain⟨q,k,_,_,rfl⟩:=hs;exact vX m q
theorem Mx {a b:List Int}{j:Nat}(h1:j<a.length)(h2:j<b.length):(a.take j++b.drop j).set j (a.getD j 0)=a.take (j+1)++b.drop (j+1):=by
 have hl:(a.take j).length=j:=by simp;omega
 rw[List.set_append_right _ _ (by omega),hl,Nat.sub_self,List.drop_eq_getElem_cons h2,List.set_cons_zero, ←List.take_append_getElem h1]
 simp only[List.getD_eq_getElem?_getD,List.getElem?_eq_getElem h1,Option.getD_some,List.append_assoc,List.cons_append,List.nil_append]
theorem E5 (h:YR H o yp xp pp mp mP m bY th L)(hle:mP.cs.length≤m.cs.length)(MQ:mP.max=m.max):aF (run G) 37 [pv yp] H λv H'=>∃o' fS,Fr H o H' o' [-90, -91]∧YR H' o' yp xp pp mp m m fS th L:=by
 refine Ev.up (t:=λn=>F37 (run G n) n (pv yp) H) ?_ λn=>Wb ..
 obtain⟨a0,a1,a2⟩:=h.ld;have S9:=h.An.Al;simp -implicitDefEqProofs only[F37,a0,Nat.add_zero,sS,Nat.reduceAdd];refine Ev.is (Jg h.jp) ?_
 try simp -implicitDefEqProofs only[sS,Nat.reduceAdd]
 have abT: ∀{Hx:aa} {ox:aj} {mz:Y.Mm} {cz:Int},YR Hx ox yp xp pp mp mz m cz th L→∃s,aq (pv yp) Hx=some (pv pp)∧aq (.pointer (some ⟨yp,1,none⟩)) Hx=some (pv xp)∧aq (.pointer (some ⟨xp,3,none⟩)) Hx=some (pv mp)∧aq (.pointer (some ⟨mp,1,none⟩)) Hx=some s∧cC s=some (cv m.cs.length)∧du Hx ox (-71) s m.cs∧sI Hx s m.cs∧oo s s=true:=λhy=>by
  obtain⟨b0,b1,b2⟩:=hy.ld;obtain⟨_,_,_,s,ty,g,_,hs,_⟩:=hy.An;refine⟨s,b0,b1,b2,an mp 1 _ g,hs.ints.1.len,hs.ints,⟨hs.ints.1,λa n c e=>?_⟩,oM.oo hs⟩
  rcases hs with⟨e1,e2⟩|⟨q,cap,rest,A8,e1,_,e3,_⟩
  ·rw[e2];exact Nat.zero_le _
  ·rw[e1] at e;cases e;omega
 refine Ev.loop (k:=mP.cs.length) (λkk vs Hx=>∃(j:Nat) (ox:aj) (cz:Int) (b9 cM mu:Value),vs=[pv yp,cv j,cv mP.cs.length,b9,cM,mu]∧j+kk=mP.cs.length∧Fr H o Hx ox [-90, -91]∧YR Hx ox yp xp pp mp ⟨m.cs.take j++mP.cs.drop j,m.max⟩ m cz th L)
  (λr=>r.1= .exit 0∧∃(ox:aj) (cz:Int) (x3 b9 cM mu:Value),r.2.1=[pv yp,x3,cv mP.cs.length,b9,cM,mu]∧Fr H o r.2.2 ox [-90, -91]∧YR r.2.2 ox yp xp pp mp ⟨m.cs.take mP.cs.length,m.max⟩ m cz th L)
  ⟨0,o,bY,_,_,_,rfl,by omega,Fr.refl _ _ _,by simpa[←MQ] using h⟩ ?_ ?_
 ·rintro kk vs Hx ⟨j,ox,cz,b9,cM,mu,rfl,hj,hf,hy⟩;obtain⟨s,b0,b1,b2,b3,b4,b5,b6,b7⟩:=abT hy;have hw:IntKind.i64.wrap ((j:Int)+1)=((j+1:Nat):Int):=by rw[fZ (by omega)];omega
  simp -implicitDefEqProofs only[NN,Ch,sS,Nat.reduceAdd];refine Ev.lss (λhq=>?_) (λhq=>?_)<;>try simp -implicitDefEqProofs only[b1,b2,b3,b4,sS,Nat.reduceAdd]
  rotate_left
  ·have:j=mP.cs.length:=by omega
   subst this;refine Ev.ret (.inr ⟨by simp,rfl,ox,cz,_,_,_,_,rfl,hf,?_⟩)
   simpa using hy
  refine Ev.lss (λkB=>?_) (λkB=>?_)<;>try simp -implicitDefEqProofs only[hw,b0,Nat.add_zero,sS,Nat.reduceAdd]
  rotate_left
  ·omega
  have zP:j<m.cs.length:=by omega
  have hjP:j<mP.cs.length:=by omega
  refine Ev.is (YU hy.jp ((j+1:Nat):Int)) ?_;obtain⟨qi,off,b,e1,e2,e3⟩:=b5.1.idx zP;have e4:aq (.pointer (some ⟨qi,off,none⟩)) Hx=some (cv (m.cs.getD j 0)):=(an qi off Hx e2).trans e3;have iQ: ∀{Hy:aa} {oy:aj} {cy:Int} (b9 cM mu:Value),Fr Hx ox Hy oy [-90, -91]→YR Hy oy yp xp pp mp ⟨m.cs.take (j+1)++mP.cs.drop (j+1),m.max⟩ m cy th L→Ev (λn=>Cg (run G n) n [pv yp,cv j,cv mP.cs.length,b9,cM,mu] Hy) λr=>(r.1= .normal∧∃k',k'<kk∧∃(j:Nat) (ox:aj) (cz:Int) (b9 cM mu:Value),r.2.1=[pv yp,cv j,cv mP.cs.length,b9,cM,mu]∧j+k'=mP.cs.length∧Fr H o r.2.2 ox [-90, -91]∧YR r.2.2 ox yp xp pp mp ⟨m.cs.take j++mP.cs.drop j,m.max⟩ m cz th L)∨(r.1≠ .normal∧r.1= .exit 0∧∃(ox:aj) (cz:Int) (x3 b9 cM mu:Value),r.2.1=[pv yp,x3,cv mP.cs.length,b9,cM,mu]∧Fr H o r.2.2 ox [-90, -91]∧YR r.2.2 ox yp xp pp mp ⟨m.cs.take mP.cs.length,m.max⟩ m cz th L):=by
   intro Hy oy cy b9 cM mu f1 h1;simp -implicitDefEqProofs only[NL,Cf,hw,sS,Nat.reduceAdd];exact Ev.ret (.inl ⟨rfl,kk-1,by omega,j+1,oy,cy,_,_,_,rfl,by omega,hf.tr f1,h1⟩)
  have Zm:(Y.Mm.mk (m.cs.take j++mP.cs.drop j) m.max).at ((j+1:Nat):Int)=mP.cs.getD j 0:=by
   have hl:(m.cs.take j).length=j:=by simp;omega
   unfold Y.Mm.at;rw[if_pos (by unfold Y.Mm.used;simp;omega),show(((j+1:Nat):Int)-1).toNat=j by omega]
   simp only[List.getD_eq_getElem?_getD];rw[List.getElem?_append_right (by omega),hl,Nat.sub_self,List.getElem?_drop,Nat.add_zero]
  have uS:=Mx (a:=m.cs) (b:=mP.cs) zP hjP;rw[Zm];simp -implicitDefEqProofs only[b1,b2,b3,e1,e4,jS,b7,sS,Nat.reduceAdd];refine Ev.neq (λUU=>?_) (λUU=>?_)<;>try simp -implicitDefEqProofs only[b0,b1,b2,b3,e1,e4,hw,Nat.add_zero,sS,Nat.reduceAdd]
  ·refine Ev.call (Qb hy.jp ((j+1:Nat):Int) (m.cs.getD j 0)) ?_;rintro v Hy ⟨_,oy,hpy,fy⟩;have em:(Y.Mm.mk (m.cs.take j++mP.cs.drop j) m.max).set ((j+1:Nat):Int) (m.cs.getD j 0)=⟨m.cs.take (j+1)++mP.cs.drop (j+1),m.max⟩:=by
    unfold Y.Mm.set;rw[if_pos (by unfold Y.Mm.used;simp;omega),show(((j+1:Nat):Int)-1).toNat=j by omega,uS]
   rw[em] at hpy;exact iQ _ _ _ fy (hy.abS fy hpy)
  ·have ee:m.cs.take (j+1)++mP.cs.drop (j+1)=m.cs.take j++mP.cs.drop j:=by
    rw[←uS, ←UU];apply List.ext_getElem?;intro k;have hl:(m.cs.take j).length=j:=by simp;omega
    by_cases e:j=k
    ·subst e;rw[List.getElem?_set_self (by simp;omega),List.getElem?_append_right (by omega),hl,Nat.sub_self,List.getElem?_drop]
     simp[List.getD_eq_getElem?_getD,hjP]
    ·rw[List.getElem?_set_ne e]
   exact iQ _ _ _ (Fr.refl _ _ _) (by rw[ee];exact hy)
 ·rintro e vs Hx ⟨he,ox,cz,x3,b9,cM,mu,rfl,hf,hy⟩;simp only at he;subst he;obtain⟨s,b0,b1,b2,b3,b4,b5,b6,b7⟩:=abT hy;simp -implicitDefEqProofs only[NP,Cj,b1,b2,b3,b4,sS,Nat.reduceAdd];refine Ev.lss (λhq=>?_) (λhq=>?_)<;>try simp -implicitDefEqProofs only[b0,b1,b2,b3,Nat.add_zero,sS,Nat.reduceAdd]
  ·obtain⟨y,UF,c2,c3⟩:=b6.cut (k:=mP.cs.length) (j:=m.cs.length) (by omega) (Nat.le_refl _) (by intro e;rw[e] at hq;simp at hq;omega) (lo:=some (cv mP.cs.length)) (hi:=none) (by simp[de,qm]) rfl
   simp -implicitDefEqProofs only[UF,sS,Nat.reduceAdd];have hd:(m.cs.take m.cs.length).drop mP.cs.length=m.cs.drop mP.cs.length:=by rw[List.take_length]
   rw[hd] at c2;refine Ev.call (Jh hy.jp c2 λ_ a n c e hh=>?_) ?_
   ·obtain⟨a',n',c',e',eb⟩:=c3 a n c e;have dz:m.cs≠[]:=by intro e;rw[e] at hq;simp at hq;omega
    have:=(b5.2 a' n' c' e' dz).2
    obtain⟨_,_,_,_,_,ho,_⟩:=hy.2.2.2;rw[←eb,hh,ho] at this;omega
   rintro v H2 ⟨rfl,_,o2,FN,f2⟩;have em:(Y.dT ⟨m.cs.take mP.cs.length,m.max⟩ (.mk (m.cs.drop mP.cs.length))).2=m:=by
    simp only[Y.dT];rw[if_neg (by
     rintro(h|h)
     ·have:=congrArg List.length h;simp at this;omega
     ·simp at h;omega)]
    simp
   rw[em] at FN
   try simp -implicitDefEqProofs only[sS,Nat.reduceAdd]
   exact Ev.ret ⟨o2,_,hf.tr f2,hy.abS f2 FN⟩
  ·have em:(Y.Mm.mk (m.cs.take mP.cs.length) m.max)=m:=by rw[List.take_of_length_le (by omega)]
   rw[em] at hy;exact Ev.ret ⟨ox,cz,hf,hy⟩
end
section
open Go.Proofs.YtgfgglponbmgmaaGreatA
variable {G:ae} {H H':aa} {o o':aj} {p c pp mp xp yp f i:Nat} {K:aa→aj→Prop} {x:Value} {m m' mP:Y.Mm} {bY:Int} {th:jc} {L:List jE} {N M:Nat}
theorem adW (H:aa):ay Tryz.prog 42 0 [] H=some (.slice (some ⟨H.length,0,none⟩) 0 0,H.new ⟨[],2,1,false⟩):=by kernel_rfl
theorem Qc {s:Value}{l:List Int}(hs:eM H s l)(hl:l.length≤65536):aF (run G) 82 [s] H λv H'=>GR H H' v l:=by
 refine Ev.up (t:=λk=>F82 (run G k) k s H) ?_ λk=>V0 ..
 obtain⟨a,cc,es⟩:=hs.isSlice;subst es;simp -implicitDefEqProofs only[F82,Af _ _ _ slI,sS,Nat.reduceAdd];cases a with
 |none=>
  simp -implicitDefEqProofs only[Option.isNone_none,sS,Nat.reduceAdd];rcases hs with⟨_,e⟩|⟨i,off,c,e,_⟩
  ·subst e;exact Ev.ret ⟨Ext.refl _,.inl ⟨rfl,rfl⟩,λa n c e=>by cases e⟩
  ·cases e
 |some a=>
  simp -implicitDefEqProofs only[Option.isNone_some,adW,sS,Nat.reduceAdd];obtain⟨H1,e1⟩: ∃z,z=H.new ⟨[],2,1,false⟩:=⟨_,rfl⟩;have f1:Fr H o0 H1 (o0.up H.length (-2)) [-2]:=by rw[e1];exact(Fr.refl _ _ _).new _ _
  have s1:oM H1 (o0.up H.length (-2)) (-2) (.slice (some ⟨H.length,0,none⟩) 0 0) []:=.inr ⟨H.length,0,[],2,rfl,by rw[e1];simpa using aL,rfl,aP⟩
  have Ha:eM H1 (.slice (some a) l.length cc) l:=by rw[e1];exact C6 hs _
  obtain⟨x2,H2,o2,a2,s2,f2,_⟩:=jY 2 s1 Ha (by simp;omega)
  rw[←e1];simp -implicitDefEqProofs only[a2,sS,Nat.reduceAdd];have f12:=f1.tr f2;simp only[List.nil_append] at s2;refine Ev.ret ⟨Ext.of f12 λi hi=>by show(-1:Int) ∉ [-2];simp,s2.ints.1,λb n c e=>?_⟩
  rcases s2 with⟨e',_⟩|⟨q,cap,rest,ty,e',g',_,ho⟩
  ·rw[e'] at e;cases e
  ·rw[e'] at e;cases e;rcases Nat.lt_or_ge q H.length with g|g
   ·have:=f12.own q g
    rw[ho] at this;exact absurd this (by show(-2:Int)≠ -1;decide)
   ·exact g
theorem Qd (h:JP K pp m bY H):aF (run G) 51 [pv pp] H λv H'=>GR H H' v m.cs:=by
 refine Ev.up (t:=λk=>F51 (run G k) k (pv pp) H) ?_ λk=>VW ..
 obtain⟨_,o,⟨jD,ref,s,ty,g,_,hs,hl⟩,_⟩:=h;have M0:aq (pv pp) H=some s:=an pp 0 H g;simp -implicitDefEqProofs only[F51,M0,Nat.add_zero,sS,Nat.reduceAdd];refine Ev.call (Qc hs.ints.1 (by omega)) ?_
 intro v H' hw
 try simp -implicitDefEqProofs only[sS,Nat.reduceAdd]
 exact Ev.ret hw
theorem TH {a b:Value}{l r:List Int}(ha:eM H a l)(hb:eM H b r)(hl:l.length≤1000000):aF (run G) 52 [a,b] H (Is H (.bool (decide (l=r)))):=by
 refine Ev.up (t:=λk=>F52 (run G k) k a b H) ?_ λk=>Wn ..
 simp -implicitDefEqProofs only[F52,ha.len,hb.len,sS,Nat.reduceAdd];refine Ev.neq (λhq=>?_) (λhq=>?_)<;>try simp -implicitDefEqProofs only[sS,Nat.reduceAdd]
 ·exact Ev.ret ⟨by rw[decide_eq_false (by rintro rfl;exact hq rfl)],rfl⟩
 have hlr:l.length=r.length:=by omega
 refine Ev.loop (k:=l.length) (λkk vs Hx=>∃(j:Nat) (x4 aC aM bU:Value),vs=[a,b,x4,aC,cv j,aM,bU]∧Hx=H∧j+kk=l.length∧l.take j=r.take j)
  (λq=>q.2.2=H∧∃(x4 aC x5 aM bU:Value),q.2.1=[a,b,x4,aC,x5,aM,bU]∧((q.1= .exit 0∧l=r)∨(q.1= .ret∧x4= .bool false∧l≠r))) ⟨0,_,_,_,_,rfl,rfl,by omega,rfl⟩ ?_ ?_
 ·rintro kk vs Hx ⟨j,x4,aC,aM,bU,rfl,rfl,hj,he⟩;have hw:IntKind.i64.wrap ((j:Int)+1)=((j+1:Nat):Int):=by rw[fZ (by omega)];omega
  simp -implicitDefEqProofs only[NZ,Cn,ha.len,sS,Nat.reduceAdd];refine Ev.lss (λhq=>?_) (λhq=>?_)<;>try simp -implicitDefEqProofs only[sS,Nat.reduceAdd]
  ·have AB:j<l.length:=by omega
   have hjr:j<r.length:=by omega
   obtain⟨q1,f1,b1,i1,g1,c1⟩:=ha.idx AB;obtain⟨q2,f2,b2,i2,g2,c2⟩:=hb.idx hjr;have L1:aq (.pointer (some ⟨q1,f1,none⟩)) Hx=some (cv (l.getD j 0)):=(an q1 f1 Hx g1).trans c1;have L2:aq (.pointer (some ⟨q2,f2,none⟩)) Hx=some (cv (r.getD j 0)):=(an q2 f2 Hx g2).trans c2;have eg: ∀{z:List Int} (hz:j<z.length),z.getD j 0=z[j]:=λhz=>by simp[List.getD_eq_getElem?_getD,hz]
   simp -implicitDefEqProofs only[i1,L1,i2,L2,sS,Nat.reduceAdd];refine Ev.neq (λkB=>?_) (λkB=>?_)<;>try simp -implicitDefEqProofs only[hw,sS,Nat.reduceAdd]
   ·refine Ev.ret (.inr ⟨by simp,rfl,_,_,_,_,_,rfl,.inr ⟨rfl,rfl,by rintro rfl;exact kB rfl⟩⟩)
   ·refine Ev.ret (.inl ⟨rfl,kk-1,by omega,j+1,_,_,_,_,rfl,rfl,by omega,?_⟩)
    rw[←List.take_append_getElem AB, ←List.take_append_getElem hjr,he, ←eg AB, ←eg hjr,kB]
  ·refine Ev.ret (.inr ⟨by simp,rfl,_,_,_,_,_,rfl,.inl ⟨rfl,?_⟩⟩)
   rw[←List.take_of_length_le (show l.length≤j by omega), ←List.take_of_length_le (show r.length≤j by omega)];exact he
 ·rintro e vs Hx ⟨hx,x4,aC,x5,aM,bU,rfl,⟨he,hlr⟩|⟨he,rfl,hlr⟩⟩
  ·simp only at he hx;subst he hx;simp -implicitDefEqProofs only[N1,Co,sS,Nat.reduceAdd];exact Ev.ret ⟨by rw[decide_eq_true hlr],rfl⟩
  ·simp only at he hx;subst he hx;show Ev (λ_=>some (Value.bool false,Hx)) _
   exact Ev.ret ⟨by rw[decide_eq_false hlr],rfl⟩
theorem Qe (h:YR H o yp xp pp mp m m bY th L):aF (run G) 15 [pv yp] H λv H'=>v= .bool true∧∃o',Fr H o H' o' []∧YR H' o' yp xp pp mp m m bY th L:=by
 refine Ev.up (t:=λk=>F15 (run G k) k (pv yp) H) ?_ λk=>W8 ..
 obtain⟨a0,a1,a2⟩:=h.ld;simp -implicitDefEqProofs only[F15,a0,a1,a2,Nat.add_zero,sS,Nat.reduceAdd];refine Ev.call (Q1:=λv H'=>v= .bool true∧Ext H H') ?_ ?_
 ·refine Ev.up (t:=λk=>F68 (run G k) k (pv pp) (pv mp) H) ?_ λk=>Xc ..
  simp -implicitDefEqProofs only[F68,sS,Nat.reduceAdd];refine Ev.call (Qd h.jp) ?_;rintro w H1 ⟨ex,hw,_⟩;have h1:=h.fr (ex.fr o (-9)) (by simp)
  obtain⟨cn,od,rf,s,ty,g,_,hs,_⟩:=h.An;have n7: ∀{Hx:aa},Ext H Hx→aq (.pointer (some ⟨mp,1,none⟩)) Hx=some s∧aq (pv mp) Hx=some (cv m.max):=λe=>⟨an mp 1 _ (e.get g),an mp 0 _ (e.get g)⟩
  obtain⟨b1,b0⟩:=n7 ex;obtain⟨c1,c0⟩:=n7 (Ext.refl H);have Ha:eM H1 s m.cs:=hs.ints.1.keep λi b e dz=>by
   rcases hs with⟨_,e2⟩|⟨q,cap,rest,A8,e1,g1,_⟩
   ·exact absurd e2 dz
   ·rw[e1] at e;cases e;exact ek (ex.old _ (ar g1))
  simp -implicitDefEqProofs only[b1,sS,Nat.reduceAdd];refine Ev.is (TH hw Ha (by have:=h.An.Al;omega)) ?_
  have AF:=oM.oo hs;have ht:decide (m.cs=m.cs)=true:=by simp
  simp -implicitDefEqProofs only[ht,decide_true,sS,Nat.reduceAdd];refine Ev.is (Jg h1.jp) ?_;simp -implicitDefEqProofs only[b1,Ha.len,sS,Nat.reduceAdd];refine Ev.eql (λ_=>?_) (λhq=>absurd rfl hq)
  try simp -implicitDefEqProofs only[sS,Nat.reduceAdd]
  refine Ev.is (TE h1.jp) ?_;simp -implicitDefEqProofs only[b0,Nat.add_zero,sS,Nat.reduceAdd];refine Ev.eql (λ_=>?_) (λhq=>absurd rfl hq)
  try simp -implicitDefEqProofs only[b1,c1,b0,AF,kE,Nat.add_zero,sS,Nat.reduceAdd]
  exact Ev.ret ⟨rfl,ex⟩
 rintro v H1 ⟨rfl,ex⟩
 try simp -implicitDefEqProofs only[sS,Nat.reduceAdd]
 exact Ev.ret ⟨rfl,_,ex.fr o (-9),h.fr (ex.fr o (-9)) (by simp)⟩
def De (th:jc)(m:Y.Mm)(hZ:jc)(m':Y.Mm):Prop:=∃i js,i<3∧PT i th js∧sG i js m hZ m'
theorem TJ (h:YR H o yp xp pp mp m m bY th L)(hI:Inv th L N M)(hN:N+3<4000000)(hM:M<1048576)(n:Int):aF (run G) 22 [pv yp,cv n] H λv H'=>∃o' m' fS hZ L',Fr H o H' o' yt∧YR H' o' yp xp pp mp m' m' fS hZ L'∧Inv hZ L' (N+3) (M+1)∧De th m hZ m':=by
 refine Ev.up (t:=λk=>F22 (run G k) k (pv yp) (cv n) H) ?_ λk=>W9 ..
 obtain⟨a0,a1,a2⟩:=h.ld;obtain⟨tb,cap,inv,dD,e3,e4,e6,e7,eT,_⟩:=h.2.2.1.n7;simp -implicitDefEqProofs only[F22,a0,a1,e4,cC,Nat.add_zero,sS,Nat.reduceAdd];refine Ev.call (lu n 3 (by omega)) ?_
 rintro v H1 ⟨t,rfl,Vp,Pg,rfl⟩;obtain⟨i,rfl⟩: ∃k:Nat,t=k:=⟨t.toNat,by omega⟩
 have hi:i<3:=by omega
 obtain⟨Tl,Tm⟩:=eT i hi;obtain⟨no,d1,d7,d8⟩:=h.2.2.1.UZ hi;have J0: ∀{Hx:aa} {ox:aj} {oj:jc} {Lx:List jE} (cd:Value),Fr H1 o Hx ox yt→YR Hx ox yp xp pp mp m m bY oj Lx→Inv oj Lx (N+3) M→PT i th oj→Ev (λk=>CA (run G k) k [pv yp,cv n,cv i,cd] Hx) λr=>∃o' m' fS hZ L',Fr H1 o r.2 o' yt∧YR r.2 o' yp xp pp mp m' m' fS hZ L'∧Inv hZ L' (N+3) (M+1)∧De th m hZ m':=by
  intro Hx ox oj Lx cd fx hx hIx hR;obtain⟨b0,b1,b2⟩:=hx.ld;simp -implicitDefEqProofs only[Oh,Cz,b1,sS,Nat.reduceAdd];refine Ev.call (PR hx.2.2.1 hi hIx (by omega) hM) ?_
  rintro v H2 ⟨o2,GO,L2,m2,r,s,e,rfl,_,f2,h2,Zr,Tn⟩;have f2y:Fr Hx ox H2 o2 yt:=f2.wk (λz hz=>by simp at hz ⊢;omega)
  obtain⟨⟨ty,g⟩,ho,_,hp⟩:=hx;have MM:YR H2 o2 yp xp pp mp m m2 bY GO L2:=⟨⟨ty,by rw[f2.same yp (ar g) (by rw[ho];simp)];exact g⟩,by rw[f2.own yp (ar g)];exact ho,h2,hp.fr f2 (by simp) (by simp)⟩
  have hl:=Tn.len
  try simp -implicitDefEqProofs only[sS,Nat.reduceAdd]
  refine Ev.call (E5 MM hl.1 hl.2.symm) ?_;rintro v H3 ⟨o3,fS,f3,h3⟩
  try simp -implicitDefEqProofs only[sS,Nat.reduceAdd]
  exact Ev.ret ⟨o3,m2,fS,GO,L2,(fx.tr f2y).trans f3 (λ_ h=>h) (by simp),h3,Zr,i,oj,hi,hR,Tn⟩
 simp -implicitDefEqProofs only[a1,e4,Tl,Tm,d1,sS,Nat.reduceAdd];have hI3:Inv th L (N+3) M:=⟨by have:=hI.len;omega,hI.lists,hI.tape⟩
 cases hb:(th i).busy<;>simp -implicitDefEqProofs only[a1,PU,sS,Nat.reduceAdd]
 ·refine Ev.call (U6 _) ?_;rintro v H2 ⟨op,rfl,ex⟩;have f2:Fr H1 o H2 (o.from H1.length (-9)) []:=ex.fr o (-9)
  have h2:=h.fr f2 (by simp)
  obtain⟨b0,b1,b2⟩:=h2.ld;refine Ev.call (EV h2.2.2.1 hi hI (by omega) op) ?_
  rintro v H3 ⟨o3,th3,L3,f3,h3,YZ,hR⟩;have f3y:Fr H2 (o.from H1.length (-9)) H3 o3 yt:=f3.wk (λz hz=>by simp at hz ⊢;omega)
  obtain⟨⟨ty,g⟩,ho,_,hp⟩:=h2;have hy3:YR H3 o3 yp xp pp mp m m bY th3 L3:=⟨⟨ty,by rw[f3.same yp (ar g) (by rw[ho];simp)];exact g⟩,by rw[f3.own yp (ar g)];exact ho,h3,hp.fr f3 (by simp) (by simp)⟩
  simp -implicitDefEqProofs only[a1,b1,jS,sS,Nat.reduceAdd];exact J0 _ (f2.trans f3y (by simp) (λ_ h=>h)) hy3 ⟨YZ.len,YZ.lists,YZ.tape⟩ hR
 ·exact J0 _ (Fr.refl _ _ _) h hI3 (.inl rfl)
end
end Go.Proofs.YtgfgglponbmgmaaGreat.Fun
end
