/- Texts of the proof of helpLogic_holds, put together by a small program of ours (names shortened, spaces taken out). No condition beyond the given statement. -/
import Derived.Test.YtgfgglponbmgmaaGreatHLG12
import Derived.Test.YtgfgglponbmgmaaGreatHLG13
import Derived.Test.YtgfgglponbmgmaaGreatHLG16
import Derived.Test.YtgfgglponbmgmaaGreatHLG17
import Derived.Test.YtgfgglponbmgmaaGreatHLG31
set_option linter.unusedVariables false
set_option linter.unusedSimpArgs false
set_option linter.unnecessarySimpa false
noncomputable section
section
namespace Go.Proofs.YtgfgglponbmgmaaGreat.Fun
open Go Go.RowKit Go.Proofs.YtgfgglponbmgmaaGreatA.Am
set_option maxRecDepth 10000
section
open Go.Proofs.YtgfgglponbmgmaaGreatA
variable {G:ae} {H H':aa} {o o':aj} {mp:Nat} {K:aa→aj→Prop} {m:Y.Mm}
def mh (H:aa)(o:aj)(mp:Nat)(m:Y.Mm):Prop:=
 ∃(cm jy ref:Int) (s:Value) (ty:TypeId),H.get mp=some ⟨[cv m.max,s,cv cm,cv jy,cv ref],ty,1,false⟩∧o mp= -70∧oJ H o (-71) s m.cs∧m.cs.length≤m.max∧m.max≤65536
theorem mh.fr {ps:List Int}(h:mh H o mp m)(f:Fr H o H' o' ps)(h1:(-70:Int) ∉ ps)(h2:(-71:Int) ∉ ps):mh H' o' mp m:=by
 obtain⟨cm,jy,ref,s,ty,g,ho,hs,hl⟩:=h;exact⟨cm,jy,ref,s,ty,by rw[f.same mp (ar g) (by rw[ho];exact h1)];exact g,by rw[f.own mp (ar g)];exact ho,hs.fr f h2,hl⟩
theorem mh.look (h:mh H o mp m):qj H mp m:=by
 obtain⟨cm,jy,ref,s,ty,g,ho,hs,hl⟩:=h;exact⟨_,_,_,_,s,ty,g,hs.ints.1⟩
theorem mh.zU (h:mh H o mp m):m.cs.length≤65536∧m.cs.length≤m.max∧m.max≤65536:=by
 obtain⟨_,_,_,_,_,_,_,_,h1,h2⟩:=h;exact⟨by omega,h1,h2⟩
def JM (K:aa→aj→Prop)(mp:Nat)(m:Y.Mm)(H:aa):Prop:=bJ [-70, -71] K∧∃o,mh H o mp m∧K H o
theorem JM.zU (h:JM K mp m H):m.cs.length≤65536:=by
 obtain⟨_,o,hm,_⟩:=h;exact hm.zU.1
theorem JM.num (h:JM K mp m H): ∃cm jy ref s ty,H.get mp=some ⟨[cv m.max,s,cv cm,cv jy,cv ref],ty,1,false⟩∧cG s=some (cv m.cs.length)∧∀iA qH qI,JM K mp m (H.put mp ⟨[cv m.max,s,cv iA,cv qH,cv qI],ty,1,false⟩):=by
 obtain⟨hK,o,⟨cm,jy,ref,s,ty,g,ho,hs,hl⟩,hk⟩:=h;refine⟨cm,jy,ref,s,ty,g,hs.ints.1.len,λiA qH qI=>⟨hK,o,⟨iA,qH,qI,s,ty,aG g,ho,?_,hl⟩,hK _ _ _ _ hk ?_⟩⟩
 ·exact hs.fr ((Fr.refl H o [-70]).put λ_=>by simp[ho]) (by simp)
 ·exact((Fr.refl H o [-70]).put λ_=>by simp[ho]).wk (by simp)
theorem aat (h:JM K mp m H)(a:Int):aE (run G) 90 [pv mp,cv a] H λv H'=>v= .bool (decide (m.used a))∧JM K mp m H':=by
 refine Ev.up (t:=λk=>F90 (run G k) k (pv mp) (cv a) H) ?_ λk=>UY ..
 obtain⟨cm,jy,ref,s,ty,g,hl,hj⟩:=h.num;obtain⟨H1,e1⟩: ∃z,z=H.put mp ⟨[cv m.max,s,cv (IntKind.i64.wrap (cm+1)),cv jy,cv ref],ty,1,false⟩:=⟨_,rfl⟩;have fv:=hj (IntKind.i64.wrap (cm+1)) jy ref;rw[←e1] at fv;have g1:H1.get mp=some ⟨[cv m.max,s,cv (IntKind.i64.wrap (cm+1)),cv jy,cv ref],ty,1,false⟩:=by rw[e1];exact aG g
 have L2:aq (.pointer (some ⟨mp,2,none⟩)) H=some (cv cm):=ao mp 2 H g;have S2:=gR mp 2 (IntKind.i64.wrap (cm+1)) H g rfl (by simp)
 simp only[List.set_cons_succ,List.set_cons_zero] at S2;rw[←e1] at S2;have M1:aq (.pointer (some ⟨mp,1,none⟩)) H1=some s:=ao mp 1 H1 g1;have M3:aq (.pointer (some ⟨mp,3,none⟩)) H1=some (cv jy):=ao mp 3 H1 g1;have S3:=gR mp 3 (IntKind.i64.wrap (jy+1)) H1 g1 rfl (by simp)
 simp only[List.set_cons_succ,List.set_cons_zero] at S3;have fH:JM K mp m (H1.put mp ⟨[cv m.max,s,cv (IntKind.i64.wrap (cm+1)),cv (IntKind.i64.wrap (jy+1)),cv ref],ty,1,false⟩):=by
  obtain⟨c2,o2,r2,s2,nE,g2,_,fH⟩:=fv.num;rw[g1] at g2;cases g2;exact fH _ _ _
 simp -implicitDefEqProofs only[F90,L2,S2,sS,Nat.reduceAdd];refine Ev.lss (λhq=>?_) (λhq=>?_)<;>try simp -implicitDefEqProofs only[M1,hl,M3,S3,sS,Nat.reduceAdd]
 ·exact Ev.ret ⟨by rw[decide_eq_false (by unfold Y.Mm.used;omega)],fH⟩
 refine Ev.gtr (λhq=>?_) (λhq=>?_)<;>try simp -implicitDefEqProofs only[M3,S3,sS,Nat.reduceAdd]
 ·exact Ev.ret ⟨by rw[decide_eq_false (by unfold Y.Mm.used;omega)],fH⟩
 ·exact Ev.ret ⟨by rw[decide_eq_true (by unfold Y.Mm.used;omega)],fv⟩
theorem JM.cell (h:JM K mp m H){a:Int}(ha:m.used a): ∃s q j,aq (.pointer (some ⟨mp,1,none⟩)) H=some s∧(∀H',cK 1 s (cv (a-1)) H'=some (.pointer (some ⟨q,j,none⟩),H'))∧aq (.pointer (some ⟨q,j,none⟩)) H=some (cv (m.at a))∧
  ∀x:Int,∃H',bD 1 (.pointer (some ⟨q,j,none⟩)) (cv x) H=some (undef,H')∧JM K mp (m.set a x) H':=by
 obtain⟨hK,o,⟨cm,jy,ref,s,ty,g,ho,hs,hl⟩,hk⟩:=h;have ha':=ha;unfold Y.Mm.used at ha';obtain⟨j,hj⟩: ∃j:Nat,a-1=j:=⟨(a-1).toNat,by omega⟩
 have Af:j<m.cs.length:=by omega
 have ej:(a-1).toNat=j:=by omega
 obtain⟨q,b,c,h1,h2,h3,h4,h5,_⟩:=hs.set Af 0;rw[hj];refine⟨s,q,j,ao mp 1 H g,h1,?_,λx=>?_⟩
 ·rw[ao q j H h2,h5];unfold Y.Mm.at;rw[if_pos ha,ej]
 obtain⟨q',b',c',k1,k2,k3,k4,k5,k6,k7,k8⟩:=hs.set Af x;have eq:q'=q:=by
  have a1:=k1 [];have a2:=h1 [];rw[a1] at a2;simpa using a2
 subst eq;have f:Fr H o (H.put q' c') o [-71]:=(Fr.refl H o [-71]).put λ_=>by simp[k4]
 have em:m.set a x=⟨m.cs.set j x,m.max⟩:=by unfold Y.Mm.set;rw[if_pos ha,ej]
 rw[em];refine⟨_,k7,⟨hK,o,⟨cm,jy,ref,s,ty,?_,ho,k8,by simpa using hl⟩,hK _ _ _ _ hk (f.wk (by simp))⟩⟩
 rw[bt (by rintro rfl;rw[ho] at k4;omega)];exact g
section
variable {α:Type} {k:Nat→Value→aa→Option α} {Q:α→Prop}
theorem Ev.has (h:JM K mp m H){a:Int}(h1:m.used a→∀H',JM K mp m H'→Ev (λn=>k n (.bool true) H') Q)(h2: ¬m.used a→∀H',JM K mp m H'→Ev (λn=>k n (.bool false) H') Q):Ev (λn=>af (run G n 90 [pv mp,cv a] H) (k n)) Q:=
 Ev.call (aat h a) λv H' hq=>by
  obtain⟨rfl,hj⟩:=hq;by_cases e:m.used a
  ·have:decide (m.used a)=true:=by simpa using e
   rw[this];exact h1 e H' hj
  ·have:decide (m.used a)=false:=by simpa using e
   rw[this];exact h2 e H' hj
end
theorem Em {a:Int}(h:m.used a)(hl:m.cs.length≤65536):IntKind.i64.wrap (a-1)=a-1:=fL (by unfold Y.Mm.used at h;omega)
theorem Iw {a:Int}(h: ¬m.used a):m.at a=0:=by unfold Y.Mm.at;rw[if_neg h]
theorem Ix (h:JM K mp m H)(a:Int):aE (run G) 98 [pv mp,cv a] H λv H'=>v=cv (m.at a)∧JM K mp m H':=by
 refine Ev.up (t:=λk=>F98 (run G k) k (pv mp) (cv a) H) ?_ λk=>Wm ..
 simp -implicitDefEqProofs only[F98,sS,Nat.reduceAdd];refine Ev.has h (λha H1 hj=>?_) (λha H1 hj=>?_)<;>try simp -implicitDefEqProofs only[sS,Nat.reduceAdd]
 ·obtain⟨s,q,j,e1,e2,e3,e4⟩:=hj.cell ha;simp -implicitDefEqProofs only[e1,Em ha hj.zU,e2,e3,sS,Nat.reduceAdd];exact Ev.ret ⟨rfl,hj⟩
 ·exact Ev.ret ⟨by rw[Iw ha],hj⟩
theorem yZ (h:JM K mp m H)(a x:Int):aE (run G) 61 [pv mp,cv a,cv x] H λv H'=>JM K mp (m.set a x) H':=by
 refine Ev.up (t:=λk=>F61 (run G k) k (pv mp) (cv a) (cv x) H) ?_ λk=>VQ ..
 simp -implicitDefEqProofs only[F61,sS,Nat.reduceAdd];refine Ev.has h (λha H1 hj=>?_) (λha H1 hj=>?_)<;>try simp -implicitDefEqProofs only[sS,Nat.reduceAdd]
 ·obtain⟨s,q,j,e1,e2,e3,e4⟩:=hj.cell ha;obtain⟨H2,e5,fH⟩:=e4 x;simp -implicitDefEqProofs only[e1,Em ha hj.zU,e2,e5,sS,Nat.reduceAdd];exact Ev.ret fH
 ·refine Ev.ret ?_;have:m.set a x=m:=by unfold Y.Mm.set;rw[if_neg ha]
  show JM K mp (m.set a x) H1
  rw[this];exact hj
theorem OU (h:JM K mp m H)(a x y:Int):aE (run G) 60 [pv mp,cv a,cv x,cv y] H λv H'=>v= .bool (decide ((Y.eB m (.cs a x y)).1=1))∧JM K mp (Y.eB m (.cs a x y)).2 H':=by
 refine Ev.up (t:=λk=>F60 (run G k) k (pv mp) (cv a) (cv x) (cv y) H) ?_ λk=>Vx ..
 simp -implicitDefEqProofs only[F60,sS,Nat.reduceAdd];refine Ev.has h (λha H1 hj=>?_) (λha H1 hj=>?_)<;>try simp -implicitDefEqProofs only[sS,Nat.reduceAdd]
 ·obtain⟨s,q,j,e1,e2,e3,e4⟩:=hj.cell ha;obtain⟨H2,e5,fH⟩:=e4 y;simp -implicitDefEqProofs only[e1,Em ha hj.zU,e2,e3,sS,Nat.reduceAdd];refine Ev.neq (λhq=>?_) (λhq=>?_)<;>try simp -implicitDefEqProofs only[e1,Em ha hj.zU,e2,e5,sS,Nat.reduceAdd]
  ·refine Ev.ret ?_;have:Y.eB m (.cs a x y)=(0,m):=by simp only[Y.eB];rw[if_neg (λh=>hq h.2)]
   rw[this];exact⟨rfl,hj⟩
  ·refine Ev.ret ?_;have:Y.eB m (.cs a x y)=(1,m.set a y):=by simp only[Y.eB];rw[if_pos ⟨ha,hq⟩]
   rw[this];exact⟨rfl,fH⟩
 ·refine Ev.ret ?_;have:Y.eB m (.cs a x y)=(0,m):=by simp only[Y.eB];rw[if_neg (λh=>ha h.1)]
  rw[this];exact⟨rfl,hj⟩
theorem Xv (h:JM K mp m H)(a x:Int):aE (run G) 99 [pv mp,cv a,cv x] H λv H'=>v=cv (Y.eB m (.ad a x)).1∧JM K mp (Y.eB m (.ad a x)).2 H':=by
 refine Ev.up (t:=λk=>F99 (run G k) k (pv mp) (cv a) (cv x) H) ?_ λk=>VG ..
 simp -implicitDefEqProofs only[F99,sS,Nat.reduceAdd];refine Ev.has h (λha H1 hj=>?_) (λha H1 hj=>?_)<;>try simp -implicitDefEqProofs only[sS,Nat.reduceAdd]
 ·obtain⟨s,q,j,e1,e2,e3,e4⟩:=hj.cell ha;obtain⟨H2,e5,fH⟩:=e4 (IntKind.i64.wrap (m.at a+x));simp -implicitDefEqProofs only[e1,Em ha hj.zU,e2,e3,e5,sS,Nat.reduceAdd];refine Ev.ret ?_;have:Y.eB m (.ad a x)=(m.at a,m.set a (Y.wr (m.at a+x))):=by simp only[Y.eB];rw[if_pos ha]
  rw[this, ←cI];exact⟨rfl,fH⟩
 ·refine Ev.ret ?_;have:Y.eB m (.ad a x)=(0,m):=by simp only[Y.eB];rw[if_neg ha]
  rw[this];exact⟨rfl,hj⟩
theorem Iy (h:JM K mp m H){w:Value}{lw:List Int}(hw:eG H w lw)(Xw:lw≠[]→∀a n c,w= .slice (some a) n c→a.block≠mp):aE (run G) 35 [pv mp,w] H λv H'=>v= .tuple #[cv (Y.eB m (.mk lw)).1,.bool (decide ((Y.eB m (.mk lw)).1>0))]∧JM K mp (Y.eB m (.mk lw)).2 H':=by
 refine Ev.up (t:=λk=>F35 (run G k) k (pv mp) w H) ?_ λk=>Vv ..
 obtain⟨cm,jy,ref,s,ty,g,hl,hj⟩:=h.num;obtain⟨H1,e1⟩: ∃z,z=H.put mp ⟨[cv m.max,s,cv (IntKind.i64.wrap (cm+1)),cv jy,cv ref],ty,1,false⟩:=⟨_,rfl⟩;have fv:=hj (IntKind.i64.wrap (cm+1)) jy ref;rw[←e1] at fv;have g1:H1.get mp=some ⟨[cv m.max,s,cv (IntKind.i64.wrap (cm+1)),cv jy,cv ref],ty,1,false⟩:=by rw[e1];exact aG g
 have L2:aq (.pointer (some ⟨mp,2,none⟩)) H=some (cv cm):=ao mp 2 H g;have S2:=gR mp 2 (IntKind.i64.wrap (cm+1)) H g rfl (by simp)
 simp only[List.set_cons_succ,List.set_cons_zero] at S2;rw[←e1] at S2;have M0:aq (pv mp) H1=some (cv m.max):=ao mp 0 H1 g1;have M1:aq (.pointer (some ⟨mp,1,none⟩)) H1=some s:=ao mp 1 H1 g1;have M4:aq (.pointer (some ⟨mp,4,none⟩)) H1=some (cv ref):=ao mp 4 H1 g1;have S4:=gR mp 4 (IntKind.i64.wrap (ref+1)) H1 g1 rfl (by simp)
 simp only[List.set_cons_succ,List.set_cons_zero] at S4;have fH:JM K mp m (H1.put mp ⟨[cv m.max,s,cv (IntKind.i64.wrap (cm+1)),cv jy,cv (IntKind.i64.wrap (ref+1))],ty,1,false⟩):=by
  obtain⟨c2,o2,r2,s2,nE,g2,_,fH⟩:=fv.num;rw[g1] at g2;cases g2;exact fH _ _ _
 have Br:eG H1 w lw:=by
  refine hw.keep λi b e dy=>?_
  rw[e1,bt (Xw dy b _ _ e)]
 have Sg:=h.zU;obtain⟨hK,o,⟨iA,qH,qI,s',AG,g',ho,hs,Ma⟩,hk⟩:=id fv;rw[g1] at g';obtain⟨rfl,rfl,rfl,rfl,rfl⟩:s'=s∧iA=IntKind.i64.wrap (cm+1)∧qH=jy∧qI=ref∧AG=ty:=by
  injection g' with g';injection g' with a b c d;injection a with a1 a2;injection a2 with a3 a4;injection a4 with a5 a6;injection a6 with a7 a8;injection a8 with a9 a10;injection a5 with _ a5;injection a7 with _ a7;injection a9 with _ a9;exact⟨a3.symm,a5.symm,a7.symm,a9.symm,b.symm⟩
 simp -implicitDefEqProofs only[F35,L2,S2,hw.len,sS,Nat.reduceAdd];refine Ev.eql (λhq=>?_) (λhq=>?_)<;>try simp -implicitDefEqProofs only[hw.len,M0,M1,M4,S4,hl,sS,Nat.reduceAdd]
 ·refine Ev.ret ?_;have:Y.eB m (.mk lw)=(0,m):=by simp only[Y.eB];rw[if_pos (.inl (List.length_eq_zero_iff.1 (by omega)))]
  rw[this];exact⟨rfl,fH⟩
 have hw9:IntKind.i64.wrap (m.max-m.cs.length)=m.max-m.cs.length:=fL (by omega)
 simp -implicitDefEqProofs only[hw9,sS,Nat.reduceAdd];refine Ev.gtr (λkt=>?_) (λkt=>?_)<;>try simp -implicitDefEqProofs only[M0,M1,M4,S4,hl,sS,Nat.reduceAdd]
 ·refine Ev.ret ?_;have:Y.eB m (.mk lw)=(0,m):=by simp only[Y.eB];rw[if_pos (.inr (by omega))]
  rw[this];exact⟨rfl,fH⟩
 have hmk:Y.eB m (.mk lw)=((m.cs.length:Int)+1,⟨m.cs++lw,m.max⟩):=by
  simp only[Y.eB];rw[if_neg (by
   rintro(h|h)
   ·subst h;simp at hq
   ·omega)]
 obtain⟨x',H2,o2,a2,s2,f2,k2⟩:=jR 2 hs Br (by omega)
 have g2:H2.get mp=some ⟨[cv m.max,s',cv (IntKind.i64.wrap (cm+1)),cv qH,cv qI],AG,1,false⟩:=by rw[f2.same mp (ar g1) (by rw[ho];simp)];exact g1
 have CY:o2 mp= -70:=by rw[f2.own mp (ar g1)];exact ho
 obtain⟨ba,bc,ex⟩:=s2.isSlice;have S1:=FL mp 1 ba (m.cs++lw).length bc H2 g2 rfl (by simp)
 rw[←ex] at S1;simp only[List.set_cons_succ,List.set_cons_zero] at S1;have hwa:IntKind.i64.wrap ((m.cs.length:Int)+1)=(m.cs.length:Int)+1:=fL (by omega)
 simp -implicitDefEqProofs only[a2,S1,hwa,sS,Nat.reduceAdd];have f3:Fr H2 o2 (H2.put mp ⟨[cv m.max,x',cv (IntKind.i64.wrap (cm+1)),cv qH,cv qI],AG,1,false⟩) o2 [-70]:=(Fr.refl H2 o2 [-70]).put λ_=>by simp[CY]
 refine Ev.ret ?_;rw[hmk];refine⟨?_,hK,o2,⟨_,_,_,x',AG,aG g2,CY,s2.fr f3 (by simp),by simp;omega,Ma.2⟩,hK _ _ _ _ hk (f2.trans f3 (by simp) (by simp))⟩
 have:decide ((m.cs.length:Int)+1>0)=true:=decide_eq_true (by omega)
 simp only[this]
theorem acI (h:JM K mp m H){q:Y.Ask}{k a y z:Int}{w:Value}{lw:List Int}(hq:Ii q k a y z lw)(hw:eG H w lw)(Xw:lw≠[]→∀a n c,w= .slice (some a) n c→a.block≠mp):aE (run G) 71 [pv mp,nm k a y z w] H λv H'=>v=cv (Y.eB m q).1∧JM K mp (Y.eB m q).2 H':=by
 refine Ev.up (t:=λn=>Zv (run G n) n (pv mp) (nm k a y z w) H) ?_ λn=>Nt ..
 obtain⟨wb,wc,ew⟩:=hw.isSlice;obtain⟨H1,e1⟩: ∃z',z'=H.new ⟨[cv k,cv a,cv y,cv z,w],112,1,false⟩:=⟨_,rfl⟩;have bx:=Cr k a y z (b:=wb) (n:=lw.length) (c:=wc) H;rw[←ew, ←e1] at bx;have fv:JM K mp m H1:=by
  obtain⟨hK,o,hm,hk⟩:=h;have f:Fr H o H1 (o.up H.length (-9)) []:=by rw[e1];exact(Fr.refl H o []).new _ _
  exact⟨hK,_,hm.fr f (by simp) (by simp),hK _ _ _ _ hk (f.wk (by simp))⟩
 have g1:H1.get H.length=some ⟨[cv k,cv a,cv y,cv z,w],112,1,false⟩:=by rw[e1];exact aL
 have L0:aq (pv H.length) H1=some (cv k):=ao H.length 0 H1 g1;have L1:aq (.pointer (some ⟨H.length,1,none⟩)) H1=some (cv a):=ao H.length 1 H1 g1;have L2:aq (.pointer (some ⟨H.length,2,none⟩)) H1=some (cv y):=ao H.length 2 H1 g1;have L3:aq (.pointer (some ⟨H.length,3,none⟩)) H1=some (cv z):=ao H.length 3 H1 g1;have L4:aq (.pointer (some ⟨H.length,4,none⟩)) H1=some w:=ao H.length 4 H1 g1;have Br:eG H1 w lw:=by rw[e1];exact CK hw _
 have J0: ∀{H2:aa} {m':Y.Mm} (x4 x3 x8 x9 aT bF bR cq cL x5:Value),JM K mp m' H2→Ev (λn=>xw (run G n) n [pv mp,nm k a y z w,x4,x3,x8,x9,aT,bF,bR,cq,cL,x5] H2) λr=>r.1=cv 0∧JM K mp m' r.2:=by
  intro H2 m' x4 x3 x8 x9 aT bF bR cq cL x5 hj;simp -implicitDefEqProofs only[DQ,vh,sS,Nat.reduceAdd];exact Ev.ret ⟨rfl,hj⟩
 simp -implicitDefEqProofs only[Zv,bx,L0,Nat.add_zero,sS,Nat.reduceAdd];cases q with
 |rd a'=>
  obtain⟨rfl,rfl⟩:=hq;refine Ev.eql (λ_=>?_) (λh=>absurd rfl h)
  try simp -implicitDefEqProofs only[L1,L2,L3,L4,sS,Nat.reduceAdd]
  refine Ev.call (Ix fv a) ?_;rintro v H2 ⟨rfl,hj⟩;exact Ev.ret ⟨rfl,hj⟩
 |wr a' x'=>
  obtain⟨rfl,rfl,rfl⟩:=hq;refine Ev.eql (λh=>absurd h (by decide)) (λ_=>?_)
  try simp -implicitDefEqProofs only[sS,Nat.reduceAdd]
  refine Ev.eql (λ_=>?_) (λh=>absurd rfl h)
  try simp -implicitDefEqProofs only[L1,L2,L3,L4,sS,Nat.reduceAdd]
  refine Ev.call (yZ fv a y) ?_;rintro v H2 hj;exact J0 _ _ _ _ _ _ _ _ _ _ hj
 |cs a' x' y'=>
  obtain⟨rfl,rfl,rfl,rfl⟩:=hq;refine Ev.eql (λh=>absurd h (by decide)) (λ_=>?_)
  try simp -implicitDefEqProofs only[sS,Nat.reduceAdd]
  refine Ev.eql (λh=>absurd h (by decide)) (λ_=>?_)
  try simp -implicitDefEqProofs only[sS,Nat.reduceAdd]
  refine Ev.eql (λ_=>?_) (λh=>absurd rfl h)
  try simp -implicitDefEqProofs only[L1,L2,L3,L4,sS,Nat.reduceAdd]
  refine Ev.call (OU fv a y z) ?_;rintro v H2 ⟨rfl,hj⟩;by_cases e:(Y.eB m (.cs a y z)).1=1
  ·have:decide ((Y.eB m (.cs a y z)).1=1)=true:=by simpa using e
   simp -implicitDefEqProofs only[this,sS,Nat.reduceAdd];exact Ev.ret ⟨by rw[e],hj⟩
  ·have:decide ((Y.eB m (.cs a y z)).1=1)=false:=by simpa using e
   simp -implicitDefEqProofs only[this,sS,Nat.reduceAdd];have e0:(Y.eB m (.cs a y z)).1=0:=by
    revert e;simp only[Y.eB];split<;>simp
   rw[e0];exact J0 _ _ _ _ _ _ _ _ _ _ hj
 |ad a' x'=>
  obtain⟨rfl,rfl,rfl⟩:=hq;refine Ev.eql (λh=>absurd h (by decide)) (λ_=>?_)
  try simp -implicitDefEqProofs only[sS,Nat.reduceAdd]
  refine Ev.eql (λh=>absurd h (by decide)) (λ_=>?_)
  try simp -implicitDefEqProofs only[sS,Nat.reduceAdd]
  refine Ev.eql (λh=>absurd h (by decide)) (λ_=>?_)
  try simp -implicitDefEqProofs only[sS,Nat.reduceAdd]
  refine Ev.eql (λ_=>?_) (λh=>absurd rfl h)
  try simp -implicitDefEqProofs only[L1,L2,L3,L4,sS,Nat.reduceAdd]
  refine Ev.call (Xv fv a y) ?_;rintro v H2 ⟨rfl,hj⟩;exact Ev.ret ⟨rfl,hj⟩
 |mk w'=>
  obtain⟨rfl,rfl⟩:=hq;refine Ev.eql (λh=>absurd h (by decide)) (λ_=>?_)
  try simp -implicitDefEqProofs only[sS,Nat.reduceAdd]
  refine Ev.eql (λh=>absurd h (by decide)) (λ_=>?_)
  try simp -implicitDefEqProofs only[sS,Nat.reduceAdd]
  refine Ev.eql (λh=>absurd h (by decide)) (λ_=>?_)
  try simp -implicitDefEqProofs only[sS,Nat.reduceAdd]
  refine Ev.eql (λh=>absurd h (by decide)) (λ_=>?_)
  try simp -implicitDefEqProofs only[sS,Nat.reduceAdd]
  refine Ev.eql (λ_=>?_) (λh=>absurd rfl h)
  try simp -implicitDefEqProofs only[L1,L2,L3,L4,sS,Nat.reduceAdd]
  refine Ev.call (Iy fv Br Xw) ?_;rintro v H2 ⟨rfl,hj⟩
  try simp -implicitDefEqProofs only[sS,Nat.reduceAdd]
  exact Ev.ret ⟨rfl,hj⟩
theorem acJ (h:JM K mp m H){k:Int}(hk:k=0∨k=1)(a y z:Int){w:Value}{lw:List Int}(hw:eG H w lw):aE (run G) 71 [pv mp,nm k a y z w] H λv H'=>(∃u,v=cv u)∧JM K mp m H':=by
 refine Ev.up (t:=λn=>Zv (run G n) n (pv mp) (nm k a y z w) H) ?_ λn=>Nt ..
 obtain⟨wb,wc,ew⟩:=hw.isSlice;obtain⟨H1,e1⟩: ∃z',z'=H.new ⟨[cv k,cv a,cv y,cv z,w],112,1,false⟩:=⟨_,rfl⟩;have bx:=Cr k a y z (b:=wb) (n:=lw.length) (c:=wc) H;rw[←ew, ←e1] at bx;have fv:JM K mp m H1:=by
  obtain⟨hK,o,hm,hk⟩:=h;have f:Fr H o H1 (o.up H.length (-9)) []:=by rw[e1];exact(Fr.refl H o []).new _ _
  exact⟨hK,_,hm.fr f (by simp) (by simp),hK _ _ _ _ hk (f.wk (by simp))⟩
 have g1:H1.get H.length=some ⟨[cv k,cv a,cv y,cv z,w],112,1,false⟩:=by rw[e1];exact aL
 have L0:aq (pv H.length) H1=some (cv k):=ao H.length 0 H1 g1;have L1:aq (.pointer (some ⟨H.length,1,none⟩)) H1=some (cv a):=ao H.length 1 H1 g1;simp -implicitDefEqProofs only[Zv,bx,L0,Nat.add_zero,sS,Nat.reduceAdd];refine Ev.eql (λhq=>?_) (λhq=>?_)<;>try simp -implicitDefEqProofs only[L1,sS,Nat.reduceAdd]
 ·refine Ev.call (Ix fv a) ?_;rintro v H2 ⟨rfl,hj⟩;exact Ev.ret ⟨⟨_,rfl⟩,hj⟩
 refine Ev.eql (λhq=>?_) (λhq=>?_)<;>try simp -implicitDefEqProofs only[sS,Nat.reduceAdd]
 ·omega
 refine Ev.eql (λhq=>?_) (λhq=>?_)<;>try simp -implicitDefEqProofs only[sS,Nat.reduceAdd]
 ·omega
 refine Ev.eql (λhq=>?_) (λhq=>?_)<;>try simp -implicitDefEqProofs only[sS,Nat.reduceAdd]
 ·omega
 refine Ev.eql (λhq=>?_) (λhq=>?_)<;>try simp -implicitDefEqProofs only[sS,Nat.reduceAdd]
 ·omega
 simp -implicitDefEqProofs only[DQ,vh,sS,Nat.reduceAdd];exact Ev.ret ⟨⟨_,rfl⟩,fv⟩
end
section
open Go.Proofs.YtgfgglponbmgmaaGreatA
variable {G:ae} {H H':aa} {o o':aj} {p m c f n i:Nat} {K K':aa→aj→Prop} {q:Int} {x:Value} {l:PL} {cs:List Value} {T:TypeId} {st:Y.St}
structure g9 where
 word:Int
 num:Int
 res:eI
abbrev gF:g9:=⟨0,0,bQ⟩
abbrev ax (a b p q:Int)(op:jY):List Value:=[cv a,cv b,cv 0,cv p,cv q,cv 0,cv 0,.bool false,cv 0,.bool false,aA,aA,aA,aA,aA,cv 0,cv 0,cv 0,cv op.kind,cv op.key,cv op.value]
abbrev oc (r:g9)(s:Value):List Value:=[cv r.word,.bool false,cv r.num,cv 0,cv 0,aA,aA,cv r.res.D5,.bool r.res.found,cv r.res.key,cv r.res.value,cv r.res.n,s]
abbrev fc (proc a b p q:Int)(op:jY)(tape:Value)(done:Bool)(r:g9)(s:Value)(rec laid:Int):List Value:=cv proc::(ax a b p q op++tape:: .bool done::(oc r s++[cv rec,cv laid]))
variable {proc a b' pp qq rec laid:Int} {op:jY} {tape s0:Value} {done:Bool} {r0:g9}
theorem Iv:aF Tryz.prog 49 []=some (.agg (oc gF aA).toArray):=by kernel_rfl
theorem uk (i:Nat)(r:g9){s:Value}{a:Option Addr}{k c:Nat}(es:s= .slice a k c)(r0:g9)(s0:Value){T:TypeId}(H:aa)(h:H.get i=some ⟨oc r0 s0,T,1,false⟩):bD 13 (pv i) (.agg (oc r s).toArray) H=some (undef,H.put i ⟨oc r s,T,1,false⟩):=by
 subst es;simp[bD,bW,h,Value.cells,known,aD,dt]
theorem yY (i:Nat)(r:g9)(s:Value){T:TypeId}(H:aa)(h:H.get i=some ⟨oc r s,T,1,false⟩):cZ 13 (pv i) H=some (.agg (oc r s).toArray):=by
 simp[cZ,aR,h]
theorem OR (i:Nat)(r:eI){s:Value}{a:Option Addr}{k c:Nat}(es:s= .slice a k c)(r0:g9)(s0:Value){T:TypeId}(H:aa)(h:H.get i=some ⟨oc r0 s0,T,1,false⟩):bD 6 (.pointer (some ⟨i,7,none⟩)) (gj r s) H=some (undef,H.put i ⟨oc {r0 with res:=r} s,T,1,false⟩):=by
 subst es;simp[bD,bW,h,Value.cells,known,aD,dt]
theorem OS (i:Nat)(a b p q:Int)(op:jY)(a0 b0 p0 q0:Int)(op0:jY){T:TypeId}(H:aa)(h:H.get i=some ⟨ax a0 b0 p0 q0 op0,T,1,false⟩):bD 21 (pv i) (.agg (ax a b p q op).toArray) H=some (undef,H.put i ⟨ax a b p q op,T,1,false⟩):=by
 simp[bD,bW,h,Value.cells,known,aD,dt]
theorem Ge (f:Nat)(H:aa)(h:H.get f=some ⟨fc proc a b' pp qq op tape done r0 s0 rec laid,T,1,false⟩):cZ 21 (.pointer (some ⟨f,1,none⟩)) H=some (.agg (ax a b' pp qq op).toArray):=by
 simp[cZ,aR,h]
theorem OT (i:Nat)(H:aa)(h:H.get i=some ⟨ax a b' pp qq op,T,1,false⟩):cZ 3 (.pointer (some ⟨i,18,none⟩)) H=some (jj op):=by
 simp[cZ,aR,h]
structure KH (B:aa) (b:aj) (p i0 i1 i2:Nat) (xs:List Value) (r2:g9) (H:aa) (o:aj):Prop where
 fr:Fr B b H o [(p:Int)]
 k0:Cl i0 (oc gF aA) 49 H o
 k1:Cl i1 xs 41 H o
 k2:Cl i2 (oc r2 aA) 49 H o
 od:B.length≤i0∧i0<i1∧i1<i2
section
variable {B:aa} {b:aj} {i0 i1 i2:Nat} {xs:List Value} {r2:g9}
theorem KH.eU:bJ [(p:Int)] (KH B b p i0 i1 i2 xs r2):=λH o H' o' h f=>⟨h.fr.tr f,h.k0.fr f (by simp),h.k1.fr f (by simp),h.k2.fr f (by simp),h.od⟩
abbrev KB0 (B:aa)(b:aj)(p:Nat):aa→aj→Prop:=λH o=>Fr B b H o [(p:Int)]
structure Pre (H:aa) (b:aj) (p f i0 i1 i2:Nat) (proc a b' pp qq:Int) (op:jY) (st:Y.St) (H1 H2 H3 H4:aa):Prop where
 n0:aS H 49 1 [cv 0,.bool false,cv 0,cv 0,cv 0,aA,aA,cv 0,.bool false,cv 0,cv 0,cv 0,aA]=(pv i0,H1)
 l1:cZ 21 (.pointer (some ⟨f,1,none⟩)) H1=some (.agg (ax a b' pp qq op).toArray)
 n1:aS H1 41 1 [cv 0,cv 0,cv 0,cv 0,cv 0,cv 0,cv 0,.bool false,cv 0,.bool false,aA,aA,aA,aA,aA,cv 0,cv 0,cv 0,cv 0,cv 0,cv 0]=(pv i1,H2)
 s1:bD 21 (pv i1) (.agg (ax a b' pp qq op).toArray) H2=some (undef,H3)
 n2:aS H3 49 1 [cv 0,.bool false,cv 0,cv 0,cv 0,aA,aA,cv 0,.bool false,cv 0,cv 0,cv 0,aA]=(pv i2,H4)
 s2:bD 13 (pv i2) (.agg (oc gF aA).toArray) H4=some (undef,H4)
 lp:aq (pv f) H4=some (cv proc)
 j4:JX (KH H b p i0 i1 i2 (ax a b' pp qq op) gF) p st H4
theorem OV (hr:yK H b p st)(hf:H.get f=some ⟨fc proc a b' pp qq op tape done r0 s0 rec laid,T,1,false⟩)(Gf:b f≠p): ∃i0 i1 i2 H1 H2 H3 H4,Pre H b p f i0 i1 i2 proc a b' pp qq op st H1 H2 H3 H4:=by
 obtain⟨i0,e0⟩: ∃i,i=H.length:=⟨_,rfl⟩;obtain⟨i1,e1⟩: ∃i,i=H.length+1:=⟨_,rfl⟩;obtain⟨i2,e2⟩: ∃i,i=H.length+2:=⟨_,rfl⟩;have EG:=ar hf;obtain⟨H1,fV⟩: ∃z,z=H.new ⟨oc gF aA,49,1,false⟩:=⟨_,rfl⟩;have l1:H1.length=H.length+1:=by rw[fV,cA]
 obtain⟨H2,im⟩: ∃z,z=H1.new ⟨ax 0 0 0 0 ⟨0,0,0⟩,41,1,false⟩:=⟨_,rfl⟩;have l2:H2.length=H.length+2:=by rw[im,cA,l1]
 have g2:H2.get i1=some ⟨ax 0 0 0 0 ⟨0,0,0⟩,41,1,false⟩:=by rw[im,e1, ←l1];exact aL
 obtain⟨H3,mo⟩: ∃z,z=H2.put i1 ⟨ax a b' pp qq op,41,1,false⟩:=⟨_,rfl⟩;have l3:H3.length=H.length+2:=by rw[mo,iC,l2]
 obtain⟨H4,pR⟩: ∃z,z=H3.new ⟨oc gF aA,49,1,false⟩:=⟨_,rfl⟩;have fv:JX (λH' o=>Fr H b H' o [(p:Int)]∧Cl i0 (oc gF aA) 49 H' o) p st H1:=by
  rw[fV];have OH:JX (λH' o=>Fr H b H' o [(p:Int)]) p st H:=⟨bJ.base (by simp),b,hr,Fr.refl _ _ _⟩
  refine OH.nB _ _ 1 ((bJ.base (by simp)).and λH o H' o' a f=>a.fr f (by simp)) λo hk f=>⟨hk.new _ _,?_⟩
  rw[e0];exact Cl.made
 have fH:JX (λH' o=>(Fr H b H' o [(p:Int)]∧Cl i0 (oc gF aA) 49 H' o)∧Cl i1 (ax 0 0 0 0 ⟨0,0,0⟩) 41 H' o) p st H2:=by
  rw[im];refine fv.nB _ _ 1 (fv.1.and λH o H' o' a f=>a.fr f (by simp)) λo hk f=>⟨⟨hk.1.new _ _,hk.2.new⟩,?_⟩
  rw[e1, ←l1];exact Cl.made
 have gA:JX (λH' o=>(Fr H b H' o [(p:Int)]∧Cl i0 (oc gF aA) 49 H' o)∧Cl i1 (ax a b' pp qq op) 41 H' o) p st H3:=by
  rw[mo];refine fH.tH (λo hg=>hg.2) (fv.1.and λH o H' o' a f=>a.fr f (by simp)) λo hg=>⟨⟨hg.1.1.put λhh=>by omega,hg.1.2.put (by omega)⟩,hg.2.self⟩
 have iW:JX (KH H b p i0 i1 i2 (ax a b' pp qq op) gF) p st H4:=by
  rw[pR];refine gA.nB _ _ 1 KH.eU λo hk f=>⟨hk.1.1.new _ _,hk.1.2.new,hk.2.new,?_,by omega⟩
  rw[e2, ←l3];exact Cl.made
 have kO: ∀{H':aa} {o':aj},Fr H b H' o' [(p:Int)]→H'.get f=some ⟨fc proc a b' pp qq op tape done r0 s0 rec laid,T,1,false⟩:=λfr=>by rw[fr.same f EG (by simpa using Gf)];exact hf
 have gf1:H1.get f=some ⟨fc proc a b' pp qq op tape done r0 s0 rec laid,T,1,false⟩:=by obtain⟨_,o,_,hk⟩:=fv;exact kO hk.1
 have S1:=OS i1 a b' pp qq op 0 0 0 0 ⟨0,0,0⟩ H2 g2;rw[←mo] at S1;obtain⟨_,o4,_,Lo⟩:=id iW;have S2:=uk i2 gF (s:=aA) rfl gF aA H4 Lo.k2.1;have Xu:H4.put i2 ⟨oc gF aA,49,1,false⟩=H4:=by
  have hl:=ar Lo.k2.1;have hg:=Lo.k2.1;unfold aa.put;apply List.ext_getElem?;intro k;by_cases e:k=i2
  ·subst e;rw[List.getElem?_set_self hl];unfold aa.get at hg;cases hx:H4[k]? with
   |none=>rw[hx] at hg;cases hg
   |some z=>rw[hx] at hg;cases z<;>simp_all
  ·rw[List.getElem?_set_ne (Ne.symm e)]
 rw[Xu] at S2;exact⟨i0,i1,i2,H1,H2,H3,H4,by rw[fV,e0];rfl,Ge f H1 gf1,by rw[im,e1, ←l1];rfl,S1,by rw[pR,e2, ←l3];rfl,S2,ao f 0 H4 (kO Lo.fr),iW⟩
theorem KH.args (hj:JX (KH B b p i0 i1 i2 (ax a b' pp qq op) r2) p st H):aq (pv i1) H=some (cv a)∧aq (.pointer (some ⟨i1,1,none⟩)) H=some (cv b')∧aq (.pointer (some ⟨i1,3,none⟩)) H=some (cv pp)∧aq (.pointer (some ⟨i1,4,none⟩)) H=some (cv qq)∧aq (.pointer (some ⟨i1,18,none⟩)) H=some (cv op.kind)∧cZ 3 (.pointer (some ⟨i1,18,none⟩)) H=some (jj op):=by
 obtain⟨_,o,_,hg⟩:=hj;exact⟨ao i1 0 _ hg.k1.1,ao i1 1 _ hg.k1.1,ao i1 3 _ hg.k1.1,ao i1 4 _ hg.k1.1,ao i1 18 _ hg.k1.1,OT _ _ hg.k1.1⟩
theorem KH.fin (hj:JX (KH B b p i0 i1 i2 xs r2) p st H): ∃H2,cZ 13 (pv i2) H=some (.agg (oc r2 aA).toArray)∧bD 13 (pv i0) (.agg (oc r2 aA).toArray) H=some (undef,H2)∧cZ 13 (pv i0) H2=some (.agg (oc r2 aA).toArray)∧JX (KB0 B b p) p st H2:=by
 obtain⟨_,o,uD,hg⟩:=id hj;exact⟨_,yY i2 r2 aA H hg.k2.1,uk i0 r2 rfl gF aA H hg.k0.1,yY i0 r2 aA (T:=49) _ (aG hg.k0.1),hj.tH (λo hg=>hg.k0) (bJ.base (by simp)) λo hg=>hg.fr.put λhh=>by have:=hg.od;omega⟩
theorem KH.res (hj:JX (KH B b p i0 i1 i2 xs r2) p st H)(r:eI): ∃H3,bD 6 (.pointer (some ⟨i2,7,none⟩)) (gj r aA) H=some (undef,H3)∧JX (KH B b p i0 i1 i2 xs {r2 with res:=r}) p st H3:=by
 obtain⟨_,o,uD,hg⟩:=id hj;exact⟨_,OR i2 r rfl r2 aA H hg.k2.1,hj.tH (λo hg=>hg.k2) KH.eU λo hg=>⟨hg.fr.put λhh=>by have:=hg.od;omega,hg.k0.put (by have:=hg.od;omega),hg.k1.put (by have:=hg.od;omega),hg.k2.self,hg.od⟩⟩
end
abbrev FF:Nat:=1048577
def Sh (op:jY):Y.Tr g9:=Y.gh (FF+1) (n9 op) (FF+1) >>= λr=>.ret ⟨0,0,yU r⟩
theorem Xx {b:aj}(hr:yK H b p st)(hM:st.left≤FF)(hf:H.get f=some ⟨fc 24 a b' pp qq op tape done r0 s0 rec laid,T,1,false⟩)(Gf:b f≠p)(hop:1≤op.kind∧op.kind≤3):
  aE (run G) 97 [pv f,pv p] H λv H'=>v= .agg (oc (Y.ah (Sh op) st).1 aA).toArray∧JX (KB0 H b p) p (Y.ah (Sh op) st).2 H':=by
 refine Ev.up (t:=λk=>Zu (run G k) k (pv f) (pv p) H) ?_ λk=>Nl ..
 obtain⟨i0,i1,i2,H1,H2,H3,H4,h⟩:=OV hr hf Gf;obtain⟨n0,L1,n1,S1,n2,S2,Lp,iW⟩:=h;obtain⟨_,_,_,_,a0,a2⟩:=KH.args iW;simp -implicitDefEqProofs only[Zu,n0,L1,n1,S1,Iv,n2,S2,Lp,Nat.add_zero,sS,Nat.reduceAdd];refine Ev.eql (λhq=>?_) (λhq=>?_)<;>try simp -implicitDefEqProofs only[sS,Nat.reduceAdd]
 ·omega
 refine Ev.eql (λhq=>?_) (λhq=>?_)<;>try simp -implicitDefEqProofs only[sS,Nat.reduceAdd]
 ·omega
 refine Ev.eql (λhq=>?_) (λhq=>?_)<;>try simp -implicitDefEqProofs only[sS,Nat.reduceAdd]
 ·omega
 refine Ev.eql (λhq=>?_) (λhq=>?_)<;>try simp -implicitDefEqProofs only[a0,Nat.add_zero,sS,Nat.reduceAdd]
 rotate_left
 ·omega
 refine Ev.lss (λhq=>?_) (λhq=>?_)<;>try simp -implicitDefEqProofs only[a0,Nat.add_zero,sS,Nat.reduceAdd]
 ·omega
 refine Ev.gtr (λhq=>?_) (λhq=>?_)<;>try simp -implicitDefEqProofs only[a2,sS,Nat.reduceAdd]
 ·omega
 refine Ev.call (OJ iW hM op) ?_;rintro v H5 ⟨rfl,hj⟩;generalize hR:Y.ah (Y.gh (FF+1) (n9 op) (FF+1)) st=R at hj
 obtain⟨rr,s2⟩:=R;have eR:Y.ah (Sh op) st=(⟨0,0,yU rr⟩,s2):=by unfold Sh;rw[Y.aJ hR];rfl
 rw[eR];simp only at hj;obtain⟨H6,g6,n8⟩:=KH.res hj (yU rr);obtain⟨H7,A1,A2,A3,CE⟩:=KH.fin n8;simp -implicitDefEqProofs only[g6,DP,vf,A1,A2,A3,sS,Nat.reduceAdd];exact Ev.ret ⟨rfl,CE⟩
end
section
open Go.Proofs.YtgfgglponbmgmaaGreatA
inductive Pr where
 |ex (t:Y.Tr g9)
 |rd
abbrev Xy (w:Int):g9:=⟨w,0,bQ⟩
abbrev aau (n:Int):g9:=⟨0,n,bQ⟩
def OW (a:Int):Y.Tr g9:=Y.sd a >>= λw=>.ret (Xy w)
def OX (a:Int):Y.Tr g9:=Y.yI a >>= λ_=>.ret gF
def OY (a:Int):Y.Tr g9:=Y.kr FF a >>= λw=>.ret (Xy w)
def OZ (a b p q:Int):Y.Tr g9:=Y.sg a b p q >>= λn=>.ret (aau n)
def AZ (t:Y.Tr g9)(proc a b p q:Int):Prop:=
 (proc=11∧t=OW a)∨(proc=12∧(-9223372036854775808≤a∧a≤65536)∧t=OX a)∨(proc=13∧t=OY a)∨(proc=14∧t=OZ a b p q)
theorem AZ.proc {t:Y.Tr g9}{proc a b p q:Int}(h:AZ t proc a b p q):11≤proc∧proc≤16:=by
 rcases h with⟨h,_⟩|⟨h,_⟩|⟨h,_⟩|⟨h,_⟩<;>omega
theorem AZ.list {t:Y.Tr g9}{proc a b p q:Int}(h:AZ t proc a b p q)(st:Y.St):(Y.ah t st).1.res.list=[]:=by
 rcases h with⟨_,rfl⟩|⟨_,_,rfl⟩|⟨_,rfl⟩|⟨_,rfl⟩
 ·unfold OW;rw[Y.ak];rfl
 ·unfold OX;rw[Y.ak];rfl
 ·unfold OY;rw[Y.ak];rfl
 ·unfold OZ;rw[Y.ak];rfl
variable {G:ae} {H H':aa} {o o':aj} {p m c f n i:Nat} {K K':aa→aj→Prop} {q:Int} {x:Value} {l:PL} {cs:List Value} {T:TypeId} {st:Y.St} {proc a b' pp qq rec laid:Int} {op:jY} {tape s0:Value} {done:Bool} {r0:g9}
section
variable {B:aa} {b:aj} {i0 i1 i2:Nat} {xs:List Value}
theorem KH.word (hj:JX (KH B b p i0 i1 i2 xs gF) p st H)(w:Int): ∃H3,bD 1 (pv i2) (cv w) H=some (undef,H3)∧JX (KH B b p i0 i1 i2 xs (Xy w)) p st H3:=by
 obtain⟨_,o,uD,hg⟩:=id hj;have S:=gR i2 0 w H hg.k2.1 rfl (by simp)
 exact⟨_,S,hj.tH (λo hg=>hg.k2) KH.eU λo hg=>⟨hg.fr.put λhh=>by have:=hg.od;omega,hg.k0.put (by have:=hg.od;omega),hg.k1.put (by have:=hg.od;omega),hg.k2.self,hg.od⟩⟩
theorem KH.acK (hj:JX (KH B b p i0 i1 i2 xs gF) p st H)(w:Int): ∃H3,bD 1 (.pointer (some ⟨i2,2,none⟩)) (cv w) H=some (undef,H3)∧JX (KH B b p i0 i1 i2 xs (aau w)) p st H3:=by
 obtain⟨_,o,uD,hg⟩:=id hj;have S:=gR i2 2 w H hg.k2.1 rfl (by simp)
 exact⟨_,S,hj.tH (λo hg=>hg.k2) KH.eU λo hg=>⟨hg.fr.put λhh=>by have:=hg.od;omega,hg.k0.put (by have:=hg.od;omega),hg.k1.put (by have:=hg.od;omega),hg.k2.self,hg.od⟩⟩
end
theorem aav {b:aj}{t:Y.Tr g9}(hr:yK H b p st)(hM:st.left≤FF)(hf:H.get f=some ⟨fc proc a b' pp qq op tape done r0 s0 rec laid,T,1,false⟩)(Gf:b f≠p)(hl:AZ t proc a b' pp qq):
  aE (run G) 95 [pv f,pv p] H λv H'=>v= .agg (oc (Y.ah t st).1 aA).toArray∧JX (KB0 H b p) p (Y.ah t st).2 H':=by
 refine Ev.up (t:=λk=>F95 (run G k) k (pv f) (pv p) H) ?_ λk=>VF ..
 obtain⟨i0,i1,i2,H1,H2,H3,H4,h⟩:=OV hr hf Gf;obtain⟨n0,L1,n1,S1,n2,S2,Lp,iW⟩:=h;obtain⟨A0,A1,A3,A4,_,_⟩:=KH.args iW;have J0: ∀{r2:g9} {s':Y.St} {H':aa} (aT aW bF bS cj cx eJ:Value),JX (KH H b p i0 i1 i2 (ax a b' pp qq op) r2) p s' H'→Y.ah t st=(r2,s')→Ev (λk=>nf (run G k) k [pv f,pv p,pv i0,aT,aW,pv i1,pv i2,bF,bS,cj,cx,eJ] H') λr=>r.1= .agg (oc (Y.ah t st).1 aA).toArray∧JX (KB0 H b p) p (Y.ah t st).2 r.2:=by
  intro r2 s' H' aT aW bF bS cj cx eJ hj e;obtain⟨H7,B1,B2,B3,CE⟩:=KH.fin hj;simp -implicitDefEqProofs only[Nk,BZ,B1,B2,B3,sS,Nat.reduceAdd];rw[e];exact Ev.ret ⟨rfl,CE⟩
 simp -implicitDefEqProofs only[F95,n0,L1,n1,S1,Iv,n2,S2,Lp,Nat.add_zero,sS,Nat.reduceAdd];rcases hl with⟨rfl,rfl⟩|⟨rfl,ha,rfl⟩|⟨rfl,rfl⟩|⟨rfl,rfl⟩
 ·refine Ev.eql (λ_=>?_) (λhq=>absurd rfl hq)
  simp -implicitDefEqProofs only[A0,A1,A3,A4,Nat.add_zero,sS,Nat.reduceAdd];refine Ev.eS (Oi iW a) λz s1 H5 ez hj=>?_
  obtain⟨H6,g6,n8⟩:=KH.word hj z;simp -implicitDefEqProofs only[Nat.add_zero,g6,sS,Nat.reduceAdd];exact J0 _ _ _ _ _ _ _ n8 (by unfold OW;rw[Y.aJ ez];rfl)
 ·refine Ev.eql (λhq=>absurd hq (by decide)) (λ_=>?_)
  try simp -implicitDefEqProofs only[sS,Nat.reduceAdd]
  refine Ev.eql (λ_=>?_) (λhq=>absurd rfl hq)
  simp -implicitDefEqProofs only[A0,A1,A3,A4,Nat.add_zero,sS,Nat.reduceAdd];refine Ev.Yu (Oj iW ha) λv z s1 H5 ez hj=>?_
  exact J0 _ _ _ _ _ _ _ hj (by unfold OX;rw[Y.aJ ez];rfl)
 ·refine Ev.eql (λhq=>absurd hq (by decide)) (λ_=>?_)
  try simp -implicitDefEqProofs only[sS,Nat.reduceAdd]
  refine Ev.eql (λhq=>absurd hq (by decide)) (λ_=>?_)
  try simp -implicitDefEqProofs only[sS,Nat.reduceAdd]
  refine Ev.eql (λ_=>?_) (λhq=>absurd rfl hq)
  simp -implicitDefEqProofs only[A0,A1,A3,A4,Nat.add_zero,sS,Nat.reduceAdd];refine Ev.eS (FV iW (f:=FF) (by omega) a) λz s1 H5 ez hj=>?_
  obtain⟨H6,g6,n8⟩:=KH.word hj z;simp -implicitDefEqProofs only[Nat.add_zero,g6,sS,Nat.reduceAdd];exact J0 _ _ _ _ _ _ _ n8 (by unfold OY;rw[Y.aJ ez];rfl)
 ·refine Ev.eql (λhq=>absurd hq (by decide)) (λ_=>?_)
  try simp -implicitDefEqProofs only[sS,Nat.reduceAdd]
  refine Ev.eql (λhq=>absurd hq (by decide)) (λ_=>?_)
  try simp -implicitDefEqProofs only[sS,Nat.reduceAdd]
  refine Ev.eql (λhq=>absurd hq (by decide)) (λ_=>?_)
  try simp -implicitDefEqProofs only[sS,Nat.reduceAdd]
  refine Ev.eql (λ_=>?_) (λhq=>absurd rfl hq)
  simp -implicitDefEqProofs only[A0,A1,A3,A4,Nat.add_zero,sS,Nat.reduceAdd];refine Ev.eS (Cy iW a b' pp qq) λz s1 H5 ez hj=>?_
  obtain⟨H6,g6,n8⟩:=KH.acK hj z;simp -implicitDefEqProofs only[Nat.add_zero,g6,sS,Nat.reduceAdd];exact J0 _ _ _ _ _ _ _ n8 (by unfold OZ;rw[Y.aJ ez];rfl)
end
end Go.Proofs.YtgfgglponbmgmaaGreat.Fun
end
