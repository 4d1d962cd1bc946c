/- Texts of the proof of helpLogic_holds, put together by a small program of ours (names shortened, spaces taken out). No condition beyond the given statement. -/
import Derived.Test.YtgfgglponbmgmaaGreatHLG12
import Derived.Test.YtgfgglponbmgmaaGreatHLG13
import Derived.Test.YtgfgglponbmgmaaGreatHLG11
import Derived.Test.YtgfgglponbmgmaaGreatHLG15
import Derived.Test.YtgfgglponbmgmaaGreatHLG10
import Derived.Test.YtgfgglponbmgmaaGreatHLG17
import Derived.Test.YtgfgglponbmgmaaGreatHLG14
import Derived.Test.YtgfgglponbmgmaaGreatHLG37
import Derived.IntWalk
import Derived.Laws.BitsLemmas
import Derived.Test.YtgfgglponbmgmaaGreatHLG16
set_option linter.unusedVariables false
set_option linter.unusedSimpArgs false
set_option linter.unnecessarySimpa false
noncomputable section
section
namespace Go.Proofs.YtgfgglponbmgmaaGreat.Fun
open Go Go.RowKit Go.Proofs.YtgfgglponbmgmaaGreatA.Am
set_option maxRecDepth 10000
section
open Go.Proofs.YtgfgglponbmgmaaGreatA
variable {G:ae} {H H':aa} {o o':aj} {p c pp f i:Nat} {K:aa→aj→Prop} {x:Value} {m m':Y.Mm} {cm:Int}
theorem SF (n:Int)(adl:0≤n)(h₁:n<2^63):IntKind.i64.wrap n=n:=by rw[IntKind.wrap_i64];omega
theorem ac5 (x:Int)(h0:0≤x)(h1:x<2^63):Go.bits .and .i64 x 7=x%8:=
 bits_mask .i64 63 (by decide) SF 3 (by decide) x h0 h1
theorem or3 (x y:Int)(h0:0≤x)(hx:x%8=0)(h1:x<2^63)(hy0:0≤y)(hy:y<8):Go.bits .or .i64 x y=x+y:=
 bits_join .i64 63 (by decide) SF 3 x y h0 hx h1 hy0 hy (by omega)
theorem ae8 (t:TypeId)(a:Int):ai Tryz.prog .shl t (cv a) (.int .u64 3)=some (cv (IntKind.i64.wrap (a*8))):=rfl
theorem ac6 (t:TypeId)(a:Int):ai Tryz.prog .shr t (cv a) (.int .u64 3)=some (cv (a.fdiv 8)):=rfl
def Pp (a b:Int):Bool:=decide (1≤a∧a≤5∧1≤b∧b≤65536)
theorem X4 (a b:Int):aE (run G) 79 [cv a,cv b] H (Is H (.bool (Pp a b))):=by
 refine Ev.up (t:=λn=>F79 (run G n) n (cv a) (cv b) H) ?_ λn=>WM ..
 simp -implicitDefEqProofs only[F79,sS,Nat.reduceAdd];repeat' (first| (refine Ev.ret ⟨?_,rfl⟩;refine congrArg Value.bool ?_;simp[Pp];omega)| ((with_reducible first|refine Ev.leq (λhq=>?_) (λhq=>?_)|refine Ev.geq (λhq=>?_) (λhq=>?_))<;>try simp -implicitDefEqProofs only[sS,Nat.reduceAdd]))
theorem ae2 (k a:Int):aE (run G) 38 [cv k,cv a] H (Is H (cv (Y.fI k a))):=by
 refine Ev.up (t:=λn=>F38 (run G n) n (cv k) (cv a) H) ?_ λn=>aeL ..
 simp -implicitDefEqProofs only[F38,sS,Nat.reduceAdd];refine Ev.is (X4 k a) ?_;cases hm:Pp k a<;>simp -implicitDefEqProofs only[sS,Nat.reduceAdd]
 ·refine Ev.ret ⟨congrArg cv ?_,rfl⟩;simp[Pp] at hm;unfold Y.fI;rw[if_pos (by omega)]
 ·simp[Pp] at hm;have e:bits .or .i64 (a*8) k=a*8+k:=or3 _ _ (by omega) (by omega) (by omega) (by omega) (by omega)
  simp -implicitDefEqProofs only[ae8,aeN,fL (x:=a*8) (by omega),e,sS,Nat.reduceAdd]
  refine Ev.ret ⟨congrArg cv ?_,rfl⟩;unfold Y.fI;rw[if_neg (by omega)];omega
def SG (w:Int):Bool:=decide (0≤w∧w≤524296)
def pk (w:Int):Int:=if SG w then Y.kd w else 0
def pa (w:Int):Int:=if SG w then Y.aw w else 0
theorem ae9 {w:Int}(h:pk w=5):Y.kd w=5∧pa w=Y.aw w:=by
 unfold pk at h;unfold pa;split at h
 ·next e=>exact⟨h,if_pos e⟩
 ·omega
theorem adm {w:Int}(h:WZ w):pk w=Y.kd w∧pa w=Y.aw w:=by
 unfold pk pa;cases e:SG w with
 |true=>exact⟨rfl,rfl⟩
 |false=>
  have hr:Y.fM w=false:=by
   simp only[SG,decide_eq_false_iff_not] at e;simp only[Y.fM,Bool.and_eq_false_iff,decide_eq_false_iff_not];unfold WZ at h;by_cases h0:0≤w
   ·refine .inr ?_;unfold Y.wr;omega
   ·exact .inl (.inl (.inl (by omega)))
  simp[Y.kd,Y.aw,hr]
theorem aeu {k a:Int}(hk:1≤k∧k≤5)(ha:1≤a∧a≤65536):pk (Y.fI k a)=k∧pa (Y.fI k a)=a:=by
 have h:=adm (w:=Y.fI k a) (by unfold WZ Y.fI;split<;>omega)
 rw[h.1,h.2];exact⟨Y.ik hk ha,Y.iO hk ha⟩
theorem Pq (w:Int): -9223372036854775808≤pa w∧pa w≤65536:=by
 unfold pa;split
 ·exact Y.nM w
 ·omega
theorem Ex (w:Int):aE (run G) 77 [cv w] H λv H'=>(∃b,v= .tuple #[cv (pk w),cv (pa w),.bool b])∧H'=H:=by
 refine Ev.up (t:=λn=>F77 (run G n) n (cv w) H) ?_ λn=>Wl ..
 have fin:SG w=false∨Y.fM w=false→Ev (λ_=>some (Value.tuple #[cv 0,cv 0,.bool false],H)) λr=>(∃b,r.1= .tuple #[cv (pk w),cv (pa w),.bool b])∧r.2=H:=λh=>by
  have e1:pk w=0:=by
   unfold pk Y.kd;rcases h with h|h<;>simp[h]
  have e2:pa w=0:=by
   unfold pa Y.aw;rcases h with h|h<;>simp[h]
  rw[e1,e2];exact Ev.ret ⟨⟨false,rfl⟩,rfl⟩
 simp -implicitDefEqProofs only[F77,sS,Nat.reduceAdd];refine Ev.lss (λh1=>?_) (λh1=>?_)<;>try simp -implicitDefEqProofs only[sS,Nat.reduceAdd]
 ·exact fin (.inl (by simp[SG];omega))
 refine Ev.gtr (λh2=>?_) (λh2=>?_)<;>try simp -implicitDefEqProofs only[sS,Nat.reduceAdd]
 ·exact fin (.inl (by simp[SG];omega))
 have ed:Int.fdiv w 8=w/8:=by rw[Int.fdiv_eq_ediv_of_nonneg _ (by omega)]
 have ewr:Y.wr (w/8)=w/8:=by unfold Y.wr;omega
 have pd:SG w=true:=by simp[SG];omega
 simp -implicitDefEqProofs only[Cp,ac6,ac5 w (by omega) (by omega),ed,sS,Nat.reduceAdd]
 refine Ev.is (X4 _ _) ?_;cases hm:Pp (w%8) (w/8)<;>simp -implicitDefEqProofs only[sS,Nat.reduceAdd]
 ·simp only[Pp,decide_eq_false_iff_not] at hm;refine fin (.inr ?_);simp only[Y.fM,Bool.and_eq_false_iff,decide_eq_false_iff_not,ewr];omega
 ·simp only[Pp,decide_eq_true_eq] at hm;have hr:Y.fM w=true:=by simp[Y.fM];omega
  exact Ev.ret ⟨⟨true,by simp[pk,pa,pd,Y.kd,Y.aw,hr,ewr]⟩,rfl⟩
theorem CR (w:Int):aE (run G) 31 [cv w] H (Is H (cv (pk w))):=by
 refine Ev.up (t:=λn=>F31 (run G n) n (cv w) H) ?_ λn=>WI ..
 simp -implicitDefEqProofs only[F31,sS,Nat.reduceAdd];refine Ev.call (Ex w) ?_;rintro v H' ⟨⟨b,rfl⟩,rfl⟩;simp -implicitDefEqProofs only[sS,Nat.reduceAdd];exact Ev.ret ⟨rfl,rfl⟩
theorem IG (w:Int):aE (run G) 76 [cv w] H (Is H (cv (pa w))):=by
 refine Ev.up (t:=λn=>F76 (run G n) n (cv w) H) ?_ λn=>UX ..
 simp -implicitDefEqProofs only[F76,sS,Nat.reduceAdd];refine Ev.call (Ex w) ?_;rintro v H' ⟨⟨b,rfl⟩,rfl⟩;simp -implicitDefEqProofs only[sS,Nat.reduceAdd];exact Ev.ret ⟨rfl,rfl⟩
theorem ptI:Tryz.prog.underlying 149=some (.pointer 2):=by kernel_rfl
def y6 (H:aa)(o:aj)(pp:Nat)(m:Y.Mm)(cm:Int):Prop:=
 ∃(jy ref:Int) (s:Value) (ty:TypeId),H.get pp=some ⟨[s,cv m.max,cv cm,cv jy,cv ref],ty,1,false⟩∧o pp= -90∧oJ H o (-91) s m.cs∧m.cs.length≤m.max∧m.max≤65536
theorem y6.fr {ps:List Int}(h:y6 H o pp m cm)(f:Fr H o H' o' ps)(h1:(-90:Int) ∉ ps)(h2:(-91:Int) ∉ ps):y6 H' o' pp m cm:=by
 obtain⟨jy,ref,s,ty,g,ho,hs,hl⟩:=h;exact⟨jy,ref,s,ty,by rw[f.same pp (ar g) (by rw[ho];exact h1)];exact g,by rw[f.own pp (ar g)];exact ho,hs.fr f h2,hl⟩
def JP (K:aa→aj→Prop)(pp:Nat)(m:Y.Mm)(cm:Int)(H:aa):Prop:=bJ [-90, -91] K∧∃o,y6 H o pp m cm∧K H o
theorem JP.zU (h:JP K pp m cm H):m.cs.length≤65536:=by
 obtain⟨_,o,⟨_,_,_,_,_,_,_,h1,h2⟩,_⟩:=h;omega
theorem JP.num (h:JP K pp m cm H): ∃jy ref s ty,H.get pp=some ⟨[s,cv m.max,cv cm,cv jy,cv ref],ty,1,false⟩∧cG s=some (cv m.cs.length)∧∀iA qH qI,JP K pp m iA (H.put pp ⟨[s,cv m.max,cv iA,cv qH,cv qI],ty,1,false⟩):=by
 obtain⟨hK,o,⟨jy,ref,s,ty,g,ho,hs,hl⟩,hk⟩:=h;refine⟨jy,ref,s,ty,g,hs.ints.1.len,λiA qH qI=>⟨hK,o,⟨qH,qI,s,ty,aG g,ho,?_,hl⟩,hK _ _ _ _ hk ?_⟩⟩
 ·exact hs.fr ((Fr.refl H o [-90]).put λ_=>by simp[ho]) (by simp)
 ·exact((Fr.refl H o [-90]).put λ_=>by simp[ho]).wk (by simp)
theorem JP.cell (h:JP K pp m cm H){a:Int}(ha:m.used a): ∃s q j,aq (pv pp) H=some s∧(∀H',cK 1 s (cv (a-1)) H'=some (.pointer (some ⟨q,j,none⟩),H'))∧aq (.pointer (some ⟨q,j,none⟩)) H=some (cv (m.at a))∧
  ∀x:Int,∃H',bD 1 (.pointer (some ⟨q,j,none⟩)) (cv x) H=some (undef,H')∧JP K pp (m.set a x) cm H':=by
 obtain⟨hK,o,⟨jy,ref,s,ty,g,ho,hs,hl⟩,hk⟩:=h;have ha':=ha;unfold Y.Mm.used at ha';obtain⟨j,hj⟩: ∃j:Nat,a-1=j:=⟨(a-1).toNat,by omega⟩
 have Af:j<m.cs.length:=by omega
 have ej:(a-1).toNat=j:=by omega
 obtain⟨q,b,c,h1,h2,h3,h4,h5,_⟩:=hs.set Af 0;rw[hj];refine⟨s,q,j,ao pp 0 H g,h1,?_,λx=>?_⟩
 ·rw[ao q j H h2,h5];unfold Y.Mm.at;rw[if_pos ha,ej]
 obtain⟨q',b',c',k1,k2,k3,k4,k5,k6,k7,k8⟩:=hs.set Af x;have eq:q'=q:=by
  have a1:=k1 [];have a2:=h1 [];rw[a1] at a2;simpa using a2
 subst eq;have f:Fr H o (H.put q' c') o [-91]:=(Fr.refl H o [-91]).put λ_=>by simp[k4]
 have em:m.set a x=⟨m.cs.set j x,m.max⟩:=by unfold Y.Mm.set;rw[if_pos ha,ej]
 rw[em];refine⟨_,k7,⟨hK,o,⟨jy,ref,s,ty,?_,ho,k8,by simpa using hl⟩,hK _ _ _ _ hk (f.wk (by simp))⟩⟩
 rw[bt (by rintro rfl;rw[ho] at k4;omega)];exact g
abbrev c1 (cm:Int):Int:=IntKind.i64.wrap (cm+1)
theorem Ps (h:JP K pp m cm H)(a:Int):aE (run G) 94 [pv pp,cv a] H λv H'=>JP K pp m (c1 cm) H'∧((¬m.used a∧v= .pointer none)∨(m.used a∧∃q j,v= .pointer (some ⟨q,j,none⟩)∧aq (.pointer (some ⟨q,j,none⟩)) H'=some (cv (m.at a))∧
  ∀x:Int,∃H2,bD 1 (.pointer (some ⟨q,j,none⟩)) (cv x) H'=some (undef,H2)∧JP K pp (m.set a x) (c1 cm) H2)):=by
 refine Ev.up (t:=λk=>F94 (run G k) k (pv pp) (cv a) H) ?_ λk=>V8 ..
 obtain⟨jy,ref,s,ty,g,hl,hj⟩:=h.num;obtain⟨H1,e1⟩: ∃z,z=H.put pp ⟨[s,cv m.max,cv (c1 cm),cv jy,cv ref],ty,1,false⟩:=⟨_,rfl⟩;have fv:=hj (c1 cm) jy ref;rw[←e1] at fv;have g1:H1.get pp=some ⟨[s,cv m.max,cv (c1 cm),cv jy,cv ref],ty,1,false⟩:=by rw[e1];exact aG g
 have L2:aq (.pointer (some ⟨pp,2,none⟩)) H=some (cv cm):=ao pp 2 H g;have S2:=gR pp 2 (c1 cm) H g rfl (by simp)
 simp only[List.set_cons_succ,List.set_cons_zero] at S2;rw[←e1] at S2;have M1:aq (pv pp) H1=some s:=ao pp 0 H1 g1;have M3:aq (.pointer (some ⟨pp,3,none⟩)) H1=some (cv jy):=ao pp 3 H1 g1;have S3:=gR pp 3 (IntKind.i64.wrap (jy+1)) H1 g1 rfl (by simp)
 simp only[List.set_cons_succ,List.set_cons_zero] at S3;have fH:JP K pp m (c1 cm) (H1.put pp ⟨[s,cv m.max,cv (c1 cm),cv (IntKind.i64.wrap (jy+1)),cv ref],ty,1,false⟩):=by
  obtain⟨o2,r2,s2,nE,g2,_,fH⟩:=fv.num;rw[g1] at g2;cases g2;exact fH _ _ _
 simp -implicitDefEqProofs only[F94,L2,S2,sS,Nat.reduceAdd];refine Ev.lss (λhq=>?_) (λhq=>?_)<;>try simp -implicitDefEqProofs only[M1,hl,M3,S3,Nat.add_zero,sS,Nat.reduceAdd]
 ·exact Ev.ret ⟨fH,.inl ⟨by unfold Y.Mm.used;omega,rfl⟩⟩
 refine Ev.gtr (λhq=>?_) (λhq=>?_)<;>try simp -implicitDefEqProofs only[M1,M3,S3,Nat.add_zero,sS,Nat.reduceAdd]
 ·exact Ev.ret ⟨fH,.inl ⟨by unfold Y.Mm.used;omega,rfl⟩⟩
 ·have hu:m.used a:=by unfold Y.Mm.used;omega
  obtain⟨s',q,j,k1,k2,k3,k4⟩:=fv.cell hu;rw[M1] at k1;cases k1;have hw:IntKind.i64.wrap (a-1)=a-1:=fL (by have:=h.zU;omega)
  simp -implicitDefEqProofs only[hw,k2,sS,Nat.reduceAdd];exact Ev.ret ⟨fv,.inr ⟨hu,q,j,rfl,k3,k4⟩⟩
theorem SH (h:JP K pp m cm H)(a:Int):aE (run G) 67 [pv pp,cv a] H λv H'=>v=cv (m.at a)∧JP K pp m (c1 cm) H':=by
 refine Ev.up (t:=λk=>F67 (run G k) k (pv pp) (cv a) H) ?_ λk=>VT ..
 simp -implicitDefEqProofs only[F67,sS,Nat.reduceAdd];refine Ev.call (Ps h a) ?_;rintro v H' ⟨hj,⟨hu,rfl⟩|⟨hu,q,j,rfl,k3,k4⟩⟩
 ·simp -implicitDefEqProofs only[tZ _ ptI,Option.isNone_none,sS,Nat.reduceAdd];exact Ev.ret ⟨by rw[Iw hu],hj⟩
 ·simp -implicitDefEqProofs only[tZ _ ptI,Option.isNone_some,N8,k3,sS,Nat.reduceAdd];exact Ev.ret ⟨rfl,hj⟩
theorem Pt (h:JP K pp m cm H)(a x:Int):aE (run G) 78 [pv pp,cv a,cv x] H λv H'=>JP K pp (m.set a x) (c1 cm) H':=by
 refine Ev.up (t:=λk=>F78 (run G k) k (pv pp) (cv a) (cv x) H) ?_ λk=>Vb ..
 simp -implicitDefEqProofs only[F78,sS,Nat.reduceAdd];refine Ev.call (Ps h a) ?_;rintro v H' ⟨hj,⟨hu,rfl⟩|⟨hu,q,j,rfl,k3,k4⟩⟩
 ·simp -implicitDefEqProofs only[ub _ ptI,Option.isSome_none,sS,Nat.reduceAdd];refine Ev.ret ?_;have:m.set a x=m:=by unfold Y.Mm.set;rw[if_neg hu]
  rw[this];exact hj
 ·obtain⟨H2,k5,k6⟩:=k4 x;simp -implicitDefEqProofs only[ub _ ptI,Option.isSome_some,N8,k5,sS,Nat.reduceAdd];exact Ev.ret k6
theorem aeO (h:JP K pp m cm H)(a x y:Int):aE (run G) 66 [pv pp,cv a,cv x,cv y] H λv H'=>v= .bool (decide ((Y.eB m (.cs a x y)).1=1))∧JP K pp (Y.eB m (.cs a x y)).2 (c1 cm) H':=by
 refine Ev.up (t:=λk=>F66 (run G k) k (pv pp) (cv a) (cv x) (cv y) H) ?_ λk=>aeJ ..
 simp -implicitDefEqProofs only[F66,sS,Nat.reduceAdd];refine Ev.call (Ps h a) ?_;rintro v H' ⟨hj,⟨hu,rfl⟩|⟨hu,q,j,rfl,k3,k4⟩⟩
 ·simp -implicitDefEqProofs only[tZ _ ptI,Option.isNone_none,sS,Nat.reduceAdd];refine Ev.ret ?_;have:Y.eB m (.cs a x y)=(0,m):=by simp only[Y.eB];rw[if_neg (λh=>hu h.1)]
  rw[this];exact⟨rfl,hj⟩
 ·obtain⟨H2,k5,k6⟩:=k4 y;simp -implicitDefEqProofs only[tZ _ ptI,Option.isNone_some,N8,k3,sS,Nat.reduceAdd];refine Ev.neq (λhq=>?_) (λhq=>?_)<;>try simp -implicitDefEqProofs only[N8,k5,sS,Nat.reduceAdd]
  ·refine Ev.ret ?_;have:Y.eB m (.cs a x y)=(0,m):=by simp only[Y.eB];rw[if_neg (λh=>hq h.2)]
   rw[this];exact⟨rfl,hj⟩
  ·refine Ev.ret ?_;have:Y.eB m (.cs a x y)=(1,m.set a y):=by simp only[Y.eB];rw[if_pos ⟨hu,hq⟩]
   rw[this];exact⟨rfl,k6⟩
theorem tM (h:JP K pp m cm H)(a:Int):aE (run G) 32 [pv pp,cv a] H (Is H (cv (m.at a))):=by
 refine Ev.up (t:=λk=>F32 (run G k) k (pv pp) (cv a) H) ?_ λk=>Wv ..
 obtain⟨jy,ref,s,ty,g,hl,_⟩:=h.num;have M1:aq (pv pp) H=some s:=ao pp 0 H g;simp -implicitDefEqProofs only[F32,sS,Nat.reduceAdd];refine Ev.lss (λhq=>?_) (λhq=>?_)<;>try simp -implicitDefEqProofs only[M1,hl,Nat.add_zero,sS,Nat.reduceAdd]
 ·exact Ev.ret ⟨by rw[Iw (by unfold Y.Mm.used;omega)],rfl⟩
 refine Ev.gtr (λhq=>?_) (λhq=>?_)<;>try simp -implicitDefEqProofs only[M1,Nat.add_zero,sS,Nat.reduceAdd]
 ·exact Ev.ret ⟨by rw[Iw (by unfold Y.Mm.used;omega)],rfl⟩
 ·obtain⟨s',q,j,k1,k2,k3,_⟩:=h.cell (show m.used a by unfold Y.Mm.used;omega)
  rw[M1] at k1;cases k1;have hw:IntKind.i64.wrap (a-1)=a-1:=fL (by have:=h.zU;omega)
  simp -implicitDefEqProofs only[hw,k2,k3,sS,Nat.reduceAdd];exact Ev.ret ⟨rfl,rfl⟩
theorem IH (h:JP K pp m cm H):aE (run G) 54 [pv pp] H (Is H (cv m.cs.length)):=by
 refine Ev.up (t:=λk=>F54 (run G k) k (pv pp) H) ?_ λk=>US ..
 obtain⟨jy,ref,s,ty,g,hl,_⟩:=h.num;have M1:aq (pv pp) H=some s:=ao pp 0 H g;simp -implicitDefEqProofs only[F54,M1,hl,Nat.add_zero,sS,Nat.reduceAdd];exact Ev.ret ⟨rfl,rfl⟩
end
section
open Go.Proofs.YtgfgglponbmgmaaGreatA
variable {G:ae} {H H':aa} {o o':aj} {p c pp mp xp yp f i:Nat} {K:aa→aj→Prop} {x:Value} {m m' mP:Y.Mm} {cm:Int} {th:kl} {L:List ku} {N M:Nat}
theorem II (h:JP K pp m cm H){w:Value}{lw:List Int}(hw:eG H w lw)(Xw:lw≠[]→∀a n c,w= .slice (some a) n c→a.block≠pp):aE (run G) 64 [pv pp,w] H λv H'=>v= .tuple #[cv (Y.eB m (.mk lw)).1,.bool (decide ((Y.eB m (.mk lw)).1>0))]∧JP K pp (Y.eB m (.mk lw)).2 (c1 cm) H':=by
 refine Ev.up (t:=λk=>F64 (run G k) k (pv pp) w H) ?_ λk=>VS ..
 obtain⟨jy,ref,s,ty,g,hl,hj⟩:=h.num;obtain⟨H1,e1⟩: ∃z,z=H.put pp ⟨[s,cv m.max,cv (c1 cm),cv jy,cv ref],ty,1,false⟩:=⟨_,rfl⟩;have fv:=hj (c1 cm) jy ref;rw[←e1] at fv;have g1:H1.get pp=some ⟨[s,cv m.max,cv (c1 cm),cv jy,cv ref],ty,1,false⟩:=by rw[e1];exact aG g
 have L2:aq (.pointer (some ⟨pp,2,none⟩)) H=some (cv cm):=ao pp 2 H g;have S2:=gR pp 2 (c1 cm) H g rfl (by simp)
 simp only[List.set_cons_succ,List.set_cons_zero] at S2;rw[←e1] at S2;have M0:aq (pv pp) H1=some s:=ao pp 0 H1 g1;have M1:aq (.pointer (some ⟨pp,1,none⟩)) H1=some (cv m.max):=ao pp 1 H1 g1;have M4:aq (.pointer (some ⟨pp,4,none⟩)) H1=some (cv ref):=ao pp 4 H1 g1;have S4:=gR pp 4 (IntKind.i64.wrap (ref+1)) H1 g1 rfl (by simp)
 simp only[List.set_cons_succ,List.set_cons_zero] at S4;have fH:JP K pp m (c1 cm) (H1.put pp ⟨[s,cv m.max,cv (c1 cm),cv jy,cv (IntKind.i64.wrap (ref+1))],ty,1,false⟩):=by
  obtain⟨o2,r2,s2,nE,g2,_,fH⟩:=fv.num;rw[g1] at g2;cases g2;exact fH _ _ _
 have Br:eG H1 w lw:=by
  refine hw.keep λi b e dy=>?_
  rw[e1,bt (Xw dy b _ _ e)]
 have Sg:=h.zU;obtain⟨hK,o,⟨qH,qI,s',AG,g',ho,hs,Ma⟩,hk⟩:=id fv;rw[g1] at g';obtain⟨rfl,rfl,rfl,rfl⟩:s'=s∧qH=jy∧qI=ref∧AG=ty:=by
  injection g' with g';injection g' with a b c d;injection a with a1 a2;injection a2 with a3 a4;injection a4 with a5 a6;injection a6 with a7 a8;injection a8 with a9 a10;injection a7 with _ a7;injection a9 with _ a9;exact⟨a1.symm,a7.symm,a9.symm,b.symm⟩
 simp -implicitDefEqProofs only[F64,L2,S2,hw.len,sS,Nat.reduceAdd];refine Ev.eql (λhq=>?_) (λhq=>?_)<;>try simp -implicitDefEqProofs only[hw.len,M0,M1,M4,S4,hl,Nat.add_zero,sS,Nat.reduceAdd]
 ·refine Ev.ret ?_;have:Y.eB m (.mk lw)=(0,m):=by simp only[Y.eB];rw[if_pos (.inl (List.length_eq_zero_iff.1 (by omega)))]
  rw[this];exact⟨rfl,fH⟩
 have hw9:IntKind.i64.wrap ((m.max:Int)-m.cs.length)=m.max-m.cs.length:=fL (by omega)
 simp -implicitDefEqProofs only[hw9,sS,Nat.reduceAdd];refine Ev.gtr (λkt=>?_) (λkt=>?_)<;>try simp -implicitDefEqProofs only[M0,M1,M4,S4,hl,Nat.add_zero,sS,Nat.reduceAdd]
 ·refine Ev.ret ?_;have:Y.eB m (.mk lw)=(0,m):=by simp only[Y.eB];rw[if_pos (.inr (by omega))]
  rw[this];exact⟨rfl,fH⟩
 have hmk:Y.eB m (.mk lw)=((m.cs.length:Int)+1,⟨m.cs++lw,m.max⟩):=by
  simp only[Y.eB];rw[if_neg (by
   rintro(h|h)
   ·subst h;simp at hq
   ·omega)]
 obtain⟨x',H2,o2,a2,s2,f2,k2⟩:=jR 2 hs Br (by omega)
 have g2:H2.get pp=some ⟨[s',cv m.max,cv (c1 cm),cv qH,cv qI],AG,1,false⟩:=by rw[f2.same pp (ar g1) (by rw[ho];simp)];exact g1
 have CY:o2 pp= -90:=by rw[f2.own pp (ar g1)];exact ho
 obtain⟨ba,bc,ex⟩:=s2.isSlice;have S1:=FL pp 0 ba (m.cs++lw).length bc H2 g2 rfl (by simp)
 rw[←ex] at S1;simp only[List.set_cons_succ,List.set_cons_zero] at S1;have hwa:IntKind.i64.wrap ((m.cs.length:Int)+1)=(m.cs.length:Int)+1:=fL (by omega)
 simp -implicitDefEqProofs only[a2,S1,hwa,sS,Nat.reduceAdd];have f3:Fr H2 o2 (H2.put pp ⟨[x',cv m.max,cv (c1 cm),cv qH,cv qI],AG,1,false⟩) o2 [-90]:=(Fr.refl H2 o2 [-90]).put λ_=>by simp[CY]
 refine Ev.ret ?_;rw[hmk];refine⟨?_,hK,o2,⟨_,_,x',AG,aG g2,CY,s2.fr f3 (by simp),by simp;omega,Ma.2⟩,hK _ _ _ _ hk (f2.trans f3 (by simp) (by simp))⟩
 have:decide ((m.cs.length:Int)+1>0)=true:=decide_eq_true (by omega)
 simp only[this]
theorem Gl (a:Int):aF Tryz.prog 126 [(1,cv a)]=some (.agg #[aA,cv a,cv 0,cv 0,cv 0]):=by kernel_rfl
theorem CS (a:Int)(H:aa):dH 126 (.agg #[aA,cv a,cv 0,cv 0,cv 0]) H=some (pv H.length,H.new ⟨[aA,cv a,cv 0,cv 0,cv 0],126,1,false⟩):=by
 simp[dH,Value.cells,aD,aS]
theorem X5 {mx:Nat}(hc:1≤mx∧mx≤65536):aE (run G) 62 [cv mx] H λv H'=>v= .tuple #[pv H.length,cv 0]∧H'=H.new ⟨[aA,cv mx,cv 0,cv 0,cv 0],126,1,false⟩:=by
 refine Ev.up (t:=λk=>F62 (run G k) k (cv mx) H) ?_ λk=>Wx ..
 simp -implicitDefEqProofs only[F62,Gl,CS,sS,Nat.reduceAdd];refine Ev.lss (λhq=>?_) (λhq=>?_)<;>try simp -implicitDefEqProofs only[Gl,CS,sS,Nat.reduceAdd]
 ·omega
 refine Ev.gtr (λhq=>?_) (λhq=>?_)<;>try simp -implicitDefEqProofs only[Gl,CS,sS,Nat.reduceAdd]
 ·omega
 exact Ev.ret ⟨rfl,rfl⟩
theorem X6 (hm:mh H o mp m)(h1:1≤m.cs.length):aE (run G) 56 [pv mp] H λv H'=>∃pp o' cm,v=pv pp∧Fr H o H' o' [-90, -91]∧y6 H' o' pp m cm:=by
 refine Ev.up (t:=λk=>F56 (run G k) k (pv mp) H) ?_ λk=>Vw ..
 have Sg:=hm.zU;obtain⟨cm,jy,ref,s,ty,g,ho,hs,hl⟩:=id hm;have L0:aq (pv mp) H=some (cv m.max):=ao mp 0 H g;simp -implicitDefEqProofs only[F56,L0,Nat.add_zero,sS,Nat.reduceAdd];refine Ev.call (X5 (mx:=m.max) (by omega)) ?_
 rintro v H1 ⟨rfl,e1⟩;have f1:Fr H o H1 (o.up H.length (-90)) []:=by rw[e1];exact(Fr.refl _ _ _).new _ _
 have g1:H1.get mp=some ⟨[cv m.max,s,cv cm,cv jy,cv ref],ty,1,false⟩:=by rw[f1.same mp (ar g) (by simp)];exact g
 have L1:aq (.pointer (some ⟨mp,1,none⟩)) H1=some s:=ao mp 1 H1 g1;have hp0:y6 H1 (o.up H.length (-90)) H.length ⟨[],m.max⟩ 0:=⟨0,0,aA,126,by rw[e1];exact aL,aP,.inl ⟨rfl,rfl⟩,by simp,by show m.max≤65536;omega⟩
 have hjp:JP (λH' o'=>Fr H1 (o.up H.length (-90)) H' o' [-90, -91]) H.length ⟨[],m.max⟩ 0 H1:=⟨bJ.base (by simp),_,hp0,Fr.refl _ _ _⟩
 have P0:dV H1 (o.up H.length (-90)) (-71) s m.cs:=hs.ints.fr f1 (by simp)
 simp -implicitDefEqProofs only[L1,sS,Nat.reduceAdd];refine Ev.call (II hjp P0.1 λdy a n c e hh=>?_) ?_
 ·have:=(P0.2 a n c e dy).2
  rw[hh,aP] at this;omega
 rintro v H2 ⟨rfl,_,o2,I3,f2⟩;have hd:(Y.eB ⟨[],m.max⟩ (.mk m.cs)).2=m:=by
  simp only[Y.eB];rw[if_neg (by
   rintro(h|h)
   ·rw[h] at h1;simp at h1
   ·simp at h;omega)]
  rfl
 rw[hd] at I3
 try simp -implicitDefEqProofs only[sS,Nat.reduceAdd]
 exact Ev.ret ⟨H.length,o2,_,rfl,f1.trans f2 (by simp) (λ_ h=>h),I3⟩
def YR (H:aa)(o:aj)(yp xp pp mp:Nat)(mP m:Y.Mm)(cm:Int)(th:kl)(L:List ku):Prop:=
 (∃ty,H.get yp=some ⟨[pv pp,pv xp],ty,1,false⟩)∧o yp= -95∧WR H o xp mp m th L∧y6 H o pp mP cm
abbrev yt:List Int:= -90:: -91:: -95::wt
theorem YR.fr {ps:List Int}(h:YR H o yp xp pp mp mP m cm th L)(f:Fr H o H' o' ps)(hp: ∀z∈ps,z ∉ (-41:Int)::yt):YR H' o' yp xp pp mp mP m cm th L:=by
 obtain⟨⟨ty,g⟩,ho,hw,hm⟩:=h;have np: ∀z∈(-41:Int)::yt,z ∉ ps:=λz hz hh=>hp z hh hz
 exact⟨⟨ty,by rw[f.same yp (ar g) (by rw[ho];exact np _ (by simp))];exact g⟩,by rw[f.own yp (ar g)];exact ho,hw.ue f λz hz hh=>hp z hz (by
  rcases List.mem_cons.1 hh with rfl|hh
  ·simp
  ·exact List.mem_cons_of_mem _ (List.mem_cons_of_mem _ (List.mem_cons_of_mem _ (List.mem_cons_of_mem _ hh)))),hm.fr f (np _ (by simp)) (np _ (by simp))⟩
theorem YR.ld (h:YR H o yp xp pp mp mP m cm th L):aq (pv yp) H=some (pv pp)∧aq (.pointer (some ⟨yp,1,none⟩)) H=some (pv xp)∧aq (.pointer (some ⟨xp,3,none⟩)) H=some (pv mp):=by
 obtain⟨⟨ty,g⟩,ho,hw,hm⟩:=h;obtain⟨tb,cap,inv,dW,e3,_⟩:=hw.oa;exact⟨ao yp 0 H g,ao yp 1 H g,e3⟩
theorem YR.CT (h:YR H o yp xp pp mp mP m cm th L):mh H o mp m:=by
 obtain⟨_,_,hw,_⟩:=h;obtain⟨_,_,_,_,_,_,_,_,_,_,_,_,_,_,_,hm,_⟩:=hw;exact hm
theorem YR.ac7 (h:YR H o yp xp pp mp mP m cm th L)(f:Fr H o H' o' [-70, -71])(hm:mh H' o' mp m'):YR H' o' yp xp pp mp mP m' cm th L:=by
 obtain⟨⟨ty,g⟩,ho,hw,hp⟩:=h;exact⟨⟨ty,by rw[f.same yp (ar g) (by rw[ho];simp)];exact g⟩,by rw[f.own yp (ar g)];exact ho,hw.mem f hm,hp.fr f (by simp) (by simp)⟩
theorem YR.aa6 (h:YR H o yp xp pp mp mP m cm th L){iA:Int}(f:Fr H o H' o' [-90, -91])(hm:y6 H' o' pp m' iA):YR H' o' yp xp pp mp m' m iA th L:=by
 obtain⟨⟨ty,g⟩,ho,hw,hp⟩:=h;exact⟨⟨ty,by rw[f.same yp (ar g) (by rw[ho];simp)];exact g⟩,by rw[f.own yp (ar g)];exact ho,hw.ue f (by simp),hm⟩
theorem YR.jp (h:YR H o yp xp pp mp mP m cm th L):JP (λH' o'=>Fr H o H' o' [-90, -91]) pp mP cm H:=⟨bJ.base (by simp),o,h.2.2.2,Fr.refl _ _ _⟩
theorem YR.jm (h:YR H o yp xp pp mp mP m cm th L):JM (λH' o'=>Fr H o H' o' [-70, -71]) mp m H:=⟨bJ.base (by simp),o,h.CT,Fr.refl _ _ _⟩
theorem X7 (a b:Nat):aF Tryz.prog 57 [(0,pv a),(1,pv b)]=some (.agg #[pv a,pv b]):=by kernel_rfl
theorem SJ (a b:Nat)(H:aa):dH 57 (.agg #[pv a,pv b]) H=some (pv H.length,H.new ⟨[pv a,pv b],57,1,false⟩):=by
 simp[dH,Value.cells,aD,aS]
theorem TG.len {G:Y.Ga}(h:TG G th m):1≤m.cs.length:=by
 have:=h.inv.room _ _ h.root.1
 simp[Y.Rec.size] at this;omega
theorem X8 (c:Int){ky x:Value}{ks zs:List Int}(hky:sA H ky ks)(hkr:dV H o (-1) ky ks)(hx:dV H o (-1) x zs)(hz:zs.length≤maxLen):aE (run G) 12 [cv c,ky,x] H λv H'=>∃yp xp pp mp o' m cm th L,v=pv yp∧Fr H o H' o' yt∧YR H' o' yp xp pp mp m m cm th L∧Inv th L 211 1680∧TI th m:=by
 refine Ev.up (t:=λn=>F12 (run G n) n (cv c) ky x H) ?_ λn=>Vt ..
 simp -implicitDefEqProofs only[F12,sS,Nat.reduceAdd];refine Ev.call (SE c hky hkr hx hz) ?_;rintro v H1 ⟨xp,mp,o1,m,th,L,rfl,f1,hw,hI,hT⟩;obtain⟨tb,cap,inv,dW,e3,_⟩:=hw.oa;have hm:mh H1 o1 mp m:=by
  obtain⟨_,_,_,_,_,_,_,_,_,_,_,_,_,_,_,hm,_⟩:=id hw;exact hm
 obtain⟨G0,hG⟩:=id hT;simp -implicitDefEqProofs only[e3,sS,Nat.reduceAdd];refine Ev.call (X6 hm hG.len) ?_;rintro v H2 ⟨pp,o2,cm,rfl,f2,hp⟩;obtain⟨H3,mo⟩: ∃z,z=H2.new ⟨[pv pp,pv xp],57,1,false⟩:=⟨_,rfl⟩;have bx:=SJ pp xp H2;rw[←mo] at bx;have f3:Fr H2 o2 H3 (o2.up H2.length (-95)) []:=by rw[mo];exact(Fr.refl _ _ _).new _ _
 simp -implicitDefEqProofs only[X7,bx,sS,Nat.reduceAdd];refine Ev.ret ⟨H2.length,xp,pp,mp,_,m,cm,th,L,rfl,(f1.trans f2 (rs:=yt) (λz hz=>by simp at hz ⊢;omega) (by simp)).trans f3 (λ_ h=>h) (by simp),⟨⟨_,by rw[mo];exact aL⟩,aP,(hw.ue f2 (by simp)).ue f3 (by simp),hp.fr f3 (by simp) (by simp)⟩,hI,hT⟩
theorem CU (m:Y.Mm)(q:Y.Ask):m.cs.length≤(Y.eB m q).2.cs.length∧(Y.eB m q).2.max=m.max:=by
 cases q with
 |rd a=>exact⟨Nat.le_refl _,rfl⟩
 |wr a x=>simp[Y.eB]
 |cs a o x=>simp only[Y.eB];split<;>simp
 |ad a d=>simp only[Y.eB];split<;>simp
 |mk w=>simp only[Y.eB];split<;>simp
theorem LK {a b:List Int}{j:Nat}(h1:j<a.length)(h2:j<b.length):(a.take j++b.drop j).set j (a.getD j 0)=a.take (j+1)++b.drop (j+1):=by
 have hl:(a.take j).length=j:=by simp;omega
 rw[List.set_append_right _ _ (by omega),hl,Nat.sub_self,List.drop_eq_getElem_cons h2,List.set_cons_zero, ←List.take_append_getElem h1]
 simp only[List.getD_eq_getElem?_getD,List.getElem?_eq_getElem h1,Option.getD_some,List.append_assoc,List.cons_append,List.nil_append]
theorem Pu (h:YR H o yp xp pp mp mP m cm th L)(hle:mP.cs.length≤m.cs.length)(Ma:mP.max=m.max):aE (run G) 37 [pv yp] H λv H'=>∃o' iA,Fr H o H' o' [-90, -91]∧YR H' o' yp xp pp mp m m iA th L:=by
 refine Ev.up (t:=λn=>F37 (run G n) n (pv yp) H) ?_ λn=>Wj ..
 obtain⟨a0,a1,a2⟩:=h.ld;have Sg:=h.CT.zU;simp -implicitDefEqProofs only[F37,a0,Nat.add_zero,sS,Nat.reduceAdd];refine Ev.is (IH h.jp) ?_
 try simp -implicitDefEqProofs only[sS,Nat.reduceAdd]
 have aa7: ∀{Hx:aa} {ox:aj} {mz:Y.Mm} {cz:Int},YR Hx ox yp xp pp mp mz m cz th L→∃s,aq (pv yp) Hx=some (pv pp)∧aq (.pointer (some ⟨yp,1,none⟩)) Hx=some (pv xp)∧aq (.pointer (some ⟨xp,3,none⟩)) Hx=some (pv mp)∧aq (.pointer (some ⟨mp,1,none⟩)) Hx=some s∧cG s=some (cv m.cs.length)∧dV Hx ox (-71) s m.cs∧sA Hx s m.cs∧pG s s=true:=λhy=>by
  obtain⟨b0,b1,b2⟩:=hy.ld;obtain⟨_,_,_,s,ty,g,_,hs,_⟩:=hy.CT;refine⟨s,b0,b1,b2,ao mp 1 _ g,hs.ints.1.len,hs.ints,⟨hs.ints.1,λa n c e=>?_⟩,oJ.pG hs⟩
  rcases hs with⟨e1,e2⟩|⟨q,cap,rest,AG,e1,_,e3,_⟩
  ·rw[e2];exact Nat.zero_le _
  ·rw[e1] at e;cases e;omega
 refine Ev.loop (k:=mP.cs.length) (λkk vs Hx=>∃(j:Nat) (ox:aj) (cz:Int) (bZ cx ml:Value),vs=[pv yp,cv j,cv mP.cs.length,bZ,cx,ml]∧j+kk=mP.cs.length∧Fr H o Hx ox [-90, -91]∧YR Hx ox yp xp pp mp ⟨m.cs.take j++mP.cs.drop j,m.max⟩ m cz th L)
  (λr=>r.1= .exit 0∧∃(ox:aj) (cz:Int) (x3 bZ cx ml:Value),r.2.1=[pv yp,x3,cv mP.cs.length,bZ,cx,ml]∧Fr H o r.2.2 ox [-90, -91]∧YR r.2.2 ox yp xp pp mp ⟨m.cs.take mP.cs.length,m.max⟩ m cz th L)
  ⟨0,o,cm,_,_,_,rfl,by omega,Fr.refl _ _ _,by simpa[←Ma] using h⟩ ?_ ?_
 ·rintro kk vs Hx ⟨j,ox,cz,bZ,cx,ml,rfl,hj,hf,hy⟩;obtain⟨s,b0,b1,b2,b3,b4,b5,b6,b7⟩:=aa7 hy;have hw:IntKind.i64.wrap ((j:Int)+1)=((j+1:Nat):Int):=by rw[fL (by omega)];omega
  simp -implicitDefEqProofs only[ND,Ce,sS,Nat.reduceAdd];refine Ev.lss (λhq=>?_) (λhq=>?_)<;>try simp -implicitDefEqProofs only[b1,b2,b3,b4,sS,Nat.reduceAdd]
  rotate_left
  ·have:j=mP.cs.length:=by omega
   subst this;refine Ev.ret (.inr ⟨by simp,rfl,ox,cz,_,_,_,_,rfl,hf,?_⟩)
   simpa using hy
  refine Ev.lss (λkt=>?_) (λkt=>?_)<;>try simp -implicitDefEqProofs only[hw,b0,Nat.add_zero,sS,Nat.reduceAdd]
  rotate_left
  ·omega
  have zp:j<m.cs.length:=by omega
  have hjP:j<mP.cs.length:=by omega
  refine Ev.is (tM hy.jp ((j+1:Nat):Int)) ?_;obtain⟨qi,off,b,e1,e2,e3⟩:=b5.1.idx zp;have e4:aq (.pointer (some ⟨qi,off,none⟩)) Hx=some (cv (m.cs.getD j 0)):=(ao qi off Hx e2).trans e3;have iJ: ∀{Hy:aa} {oy:aj} {cy:Int} (bZ cx ml:Value),Fr Hx ox Hy oy [-90, -91]→YR Hy oy yp xp pp mp ⟨m.cs.take (j+1)++mP.cs.drop (j+1),m.max⟩ m cy th L→Ev (λn=>Cd (run G n) n [pv yp,cv j,cv mP.cs.length,bZ,cx,ml] Hy) λr=>(r.1= .normal∧∃k',k'<kk∧∃(j:Nat) (ox:aj) (cz:Int) (bZ cx ml:Value),r.2.1=[pv yp,cv j,cv mP.cs.length,bZ,cx,ml]∧j+k'=mP.cs.length∧Fr H o r.2.2 ox [-90, -91]∧YR r.2.2 ox yp xp pp mp ⟨m.cs.take j++mP.cs.drop j,m.max⟩ m cz th L)∨(r.1≠ .normal∧r.1= .exit 0∧∃(ox:aj) (cz:Int) (x3 bZ cx ml:Value),r.2.1=[pv yp,x3,cv mP.cs.length,bZ,cx,ml]∧Fr H o r.2.2 ox [-90, -91]∧YR r.2.2 ox yp xp pp mp ⟨m.cs.take mP.cs.length,m.max⟩ m cz th L):=by
   intro Hy oy cy bZ cx ml f1 h1;simp -implicitDefEqProofs only[NB,Cc,hw,sS,Nat.reduceAdd];exact Ev.ret (.inl ⟨rfl,kk-1,by omega,j+1,oy,cy,_,_,_,rfl,by omega,hf.tr f1,h1⟩)
  have Yw:(Y.Mm.mk (m.cs.take j++mP.cs.drop j) m.max).at ((j+1:Nat):Int)=mP.cs.getD j 0:=by
   have hl:(m.cs.take j).length=j:=by simp;omega
   unfold Y.Mm.at;rw[if_pos (by unfold Y.Mm.used;simp;omega),show(((j+1:Nat):Int)-1).toNat=j by omega]
   simp only[List.getD_eq_getElem?_getD];rw[List.getElem?_append_right (by omega),hl,Nat.sub_self,List.getElem?_drop,Nat.add_zero]
  have uC:=LK (a:=m.cs) (b:=mP.cs) zp hjP;rw[Yw];simp -implicitDefEqProofs only[b1,b2,b3,e1,e4,jM,b7,sS,Nat.reduceAdd];refine Ev.neq (λTS=>?_) (λTS=>?_)<;>try simp -implicitDefEqProofs only[b0,b1,b2,b3,e1,e4,hw,Nat.add_zero,sS,Nat.reduceAdd]
  ·refine Ev.call (Pt hy.jp ((j+1:Nat):Int) (m.cs.getD j 0)) ?_;rintro v Hy ⟨_,oy,hpy,fy⟩;have em:(Y.Mm.mk (m.cs.take j++mP.cs.drop j) m.max).set ((j+1:Nat):Int) (m.cs.getD j 0)=⟨m.cs.take (j+1)++mP.cs.drop (j+1),m.max⟩:=by
    unfold Y.Mm.set;rw[if_pos (by unfold Y.Mm.used;simp;omega),show(((j+1:Nat):Int)-1).toNat=j by omega,uC]
   rw[em] at hpy;exact iJ _ _ _ fy (hy.aa6 fy hpy)
  ·have ee:m.cs.take (j+1)++mP.cs.drop (j+1)=m.cs.take j++mP.cs.drop j:=by
    rw[←uC, ←TS];apply List.ext_getElem?;intro k;have hl:(m.cs.take j).length=j:=by simp;omega
    by_cases e:j=k
    ·subst e;rw[List.getElem?_set_self (by simp;omega),List.getElem?_append_right (by omega),hl,Nat.sub_self,List.getElem?_drop]
     simp[List.getD_eq_getElem?_getD,hjP]
    ·rw[List.getElem?_set_ne e]
   exact iJ _ _ _ (Fr.refl _ _ _) (by rw[ee];exact hy)
 ·rintro e vs Hx ⟨he,ox,cz,x3,bZ,cx,ml,rfl,hf,hy⟩;simp only at he;subst he;obtain⟨s,b0,b1,b2,b3,b4,b5,b6,b7⟩:=aa7 hy;simp -implicitDefEqProofs only[NG,Cf,b1,b2,b3,b4,sS,Nat.reduceAdd];refine Ev.lss (λhq=>?_) (λhq=>?_)<;>try simp -implicitDefEqProofs only[b0,b1,b2,b3,Nat.add_zero,sS,Nat.reduceAdd]
  ·obtain⟨y,TD,c2,c3⟩:=b6.cut (k:=mP.cs.length) (j:=m.cs.length) (by omega) (Nat.le_refl _) (by intro e;rw[e] at hq;simp at hq;omega) (lo:=some (cv mP.cs.length)) (hi:=none) (by simp[db,ql]) rfl
   simp -implicitDefEqProofs only[TD,sS,Nat.reduceAdd];have hd:(m.cs.take m.cs.length).drop mP.cs.length=m.cs.drop mP.cs.length:=by rw[List.take_length]
   rw[hd] at c2;refine Ev.call (II hy.jp c2 λ_ a n c e hh=>?_) ?_
   ·obtain⟨a',n',c',e',eb⟩:=c3 a n c e;have dy:m.cs≠[]:=by intro e;rw[e] at hq;simp at hq;omega
    have:=(b5.2 a' n' c' e' dy).2
    obtain⟨_,_,_,_,_,ho,_⟩:=hy.2.2.2;rw[←eb,hh,ho] at this;omega
   rintro v H2 ⟨rfl,_,o2,I3,f2⟩;have em:(Y.eB ⟨m.cs.take mP.cs.length,m.max⟩ (.mk (m.cs.drop mP.cs.length))).2=m:=by
    simp only[Y.eB];rw[if_neg (by
     rintro(h|h)
     ·have:=congrArg List.length h;simp at this;omega
     ·simp at h;omega)]
    simp
   rw[em] at I3
   try simp -implicitDefEqProofs only[sS,Nat.reduceAdd]
   exact Ev.ret ⟨o2,_,hf.tr f2,hy.aa6 f2 I3⟩
  ·have em:(Y.Mm.mk (m.cs.take mP.cs.length) m.max)=m:=by rw[List.take_of_length_le (by omega)]
   rw[em] at hy;exact Ev.ret ⟨ox,cz,hf,hy⟩
end
end Go.Proofs.YtgfgglponbmgmaaGreat.Fun
end
