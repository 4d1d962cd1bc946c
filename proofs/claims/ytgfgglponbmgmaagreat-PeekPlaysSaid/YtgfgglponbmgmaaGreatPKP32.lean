/- Texts of the proof of peekPlays_holds, put together by a small program of ours (names shortened, spaces taken out). No condition beyond the given statement. -/
import Derived.Test.YtgfgglponbmgmaaGreatPKP11
import Derived.Test.YtgfgglponbmgmaaGreatPKP12
import Derived.Test.YtgfgglponbmgmaaGreatPKP16
import Derived.Test.YtgfgglponbmgmaaGreatPKP17
import Derived.Test.YtgfgglponbmgmaaGreatPKP31
set_option linter.unusedVariables false
set_option linter.unusedSimpArgs false
set_option linter.unnecessarySimpa false
noncomputable section
section
namespace Go.Proofs.YtgfgglponbmgmaaGreat.Fun
open Go Go.RowKit Go.Proofs.YtgfgglponbmgmaaGreatA.Am
set_option maxRecDepth 10000
section
open Go.Proofs.YtgfgglponbmgmaaGreatA
variable {G:ae} {H H':aa} {o o':aj} {mp:Nat} {K:aa→aj→Prop} {m:Y.Mm}
def lJ (H:aa)(o:aj)(mp:Nat)(m:Y.Mm):Prop:=
 ∃(bY jD ref:Int) (s:Value) (ty:TypeId),H.get mp=some ⟨[cv m.max,s,cv bY,cv jD,cv ref],ty,1,false⟩∧o mp= -70∧oM H o (-71) s m.cs∧m.cs.length≤m.max∧m.max≤65536
theorem lJ.fr {ps:List Int}(h:lJ H o mp m)(f:Fr H o H' o' ps)(h1:(-70:Int) ∉ ps)(h2:(-71:Int) ∉ ps):lJ H' o' mp m:=by
 obtain⟨bY,jD,ref,s,ty,g,ho,hs,hl⟩:=h;exact⟨bY,jD,ref,s,ty,by rw[f.same mp (ar g) (by rw[ho];exact h1)];exact g,by rw[f.own mp (ar g)];exact ho,hs.fr f h2,hl⟩
theorem lJ.look (h:lJ H o mp m):qk H mp m:=by
 obtain⟨bY,jD,ref,s,ty,g,ho,hs,hl⟩:=h;exact⟨_,_,_,_,s,ty,g,hs.ints.1⟩
theorem lJ.Al (h:lJ H o mp m):m.cs.length≤65536∧m.cs.length≤m.max∧m.max≤65536:=by
 obtain⟨_,_,_,_,_,_,_,_,h1,h2⟩:=h;exact⟨by omega,h1,h2⟩
def JM (K:aa→aj→Prop)(mp:Nat)(m:Y.Mm)(H:aa):Prop:=bK [-70, -71] K∧∃o,lJ H o mp m∧K H o
theorem JM.Al (h:JM K mp m H):m.cs.length≤65536:=by
 obtain⟨_,o,hm,_⟩:=h;exact hm.Al.1
theorem JM.num (h:JM K mp m H): ∃bY jD ref s ty,H.get mp=some ⟨[cv m.max,s,cv bY,cv jD,cv ref],ty,1,false⟩∧cC s=some (cv m.cs.length)∧∀fS qM qN,JM K mp m (H.put mp ⟨[cv m.max,s,cv fS,cv qM,cv qN],ty,1,false⟩):=by
 obtain⟨hK,o,⟨bY,jD,ref,s,ty,g,ho,hs,hl⟩,hk⟩:=h;refine⟨bY,jD,ref,s,ty,g,hs.ints.1.len,λfS qM qN=>⟨hK,o,⟨fS,qM,qN,s,ty,aG g,ho,?_,hl⟩,hK _ _ _ _ hk ?_⟩⟩
 ·exact hs.fr ((Fr.refl H o [-70]).put λ_=>by simp[ho]) (by simp)
 ·exact((Fr.refl H o [-70]).put λ_=>by simp[ho]).wk (by simp)
theorem abe (h:JM K mp m H)(a:Int):aF (run G) 90 [pv mp,cv a] H λv H'=>v= .bool (decide (m.used a))∧JM K mp m H':=by
 refine Ev.up (t:=λk=>F90 (run G k) k (pv mp) (cv a) H) ?_ λk=>Wv ..
 obtain⟨bY,jD,ref,s,ty,g,hl,hj⟩:=h.num;obtain⟨H1,e1⟩: ∃z,z=H.put mp ⟨[cv m.max,s,cv (IntKind.i64.wrap (bY+1)),cv jD,cv ref],ty,1,false⟩:=⟨_,rfl⟩;have fG:=hj (IntKind.i64.wrap (bY+1)) jD ref;rw[←e1] at fG;have g1:H1.get mp=some ⟨[cv m.max,s,cv (IntKind.i64.wrap (bY+1)),cv jD,cv ref],ty,1,false⟩:=by rw[e1];exact aG g
 have L2:aq (.pointer (some ⟨mp,2,none⟩)) H=some (cv bY):=an mp 2 H g;have S2:=gX mp 2 (IntKind.i64.wrap (bY+1)) H g rfl (by simp)
 simp only[List.set_cons_succ,List.set_cons_zero] at S2;rw[←e1] at S2;have M1:aq (.pointer (some ⟨mp,1,none⟩)) H1=some s:=an mp 1 H1 g1;have M3:aq (.pointer (some ⟨mp,3,none⟩)) H1=some (cv jD):=an mp 3 H1 g1;have S3:=gX mp 3 (IntKind.i64.wrap (jD+1)) H1 g1 rfl (by simp)
 simp only[List.set_cons_succ,List.set_cons_zero] at S3;have fM:JM K mp m (H1.put mp ⟨[cv m.max,s,cv (IntKind.i64.wrap (bY+1)),cv (IntKind.i64.wrap (jD+1)),cv ref],ty,1,false⟩):=by
  obtain⟨c2,o2,r2,s2,mQ,g2,_,fM⟩:=fG.num;rw[g1] at g2;cases g2;exact fM _ _ _
 simp -implicitDefEqProofs only[F90,L2,S2,sS,Nat.reduceAdd];refine Ev.lss (λhq=>?_) (λhq=>?_)<;>try simp -implicitDefEqProofs only[M1,hl,M3,S3,sS,Nat.reduceAdd]
 ·exact Ev.ret ⟨by rw[decide_eq_false (by unfold Y.Mm.used;omega)],fM⟩
 refine Ev.gtr (λhq=>?_) (λhq=>?_)<;>try simp -implicitDefEqProofs only[M3,S3,sS,Nat.reduceAdd]
 ·exact Ev.ret ⟨by rw[decide_eq_false (by unfold Y.Mm.used;omega)],fM⟩
 ·exact Ev.ret ⟨by rw[decide_eq_true (by unfold Y.Mm.used;omega)],fG⟩
theorem JM.cell (h:JM K mp m H){a:Int}(ha:m.used a): ∃s q j,aq (.pointer (some ⟨mp,1,none⟩)) H=some s∧(∀H',cG 1 s (cv (a-1)) H'=some (.pointer (some ⟨q,j,none⟩),H'))∧aq (.pointer (some ⟨q,j,none⟩)) H=some (cv (m.at a))∧
  ∀x:Int,∃H',bE 1 (.pointer (some ⟨q,j,none⟩)) (cv x) H=some (undef,H')∧JM K mp (m.set a x) H':=by
 obtain⟨hK,o,⟨bY,jD,ref,s,ty,g,ho,hs,hl⟩,hk⟩:=h;have ha':=ha;unfold Y.Mm.used at ha';obtain⟨j,hj⟩: ∃j:Nat,a-1=j:=⟨(a-1).toNat,by omega⟩
 have AB:j<m.cs.length:=by omega
 have ej:(a-1).toNat=j:=by omega
 obtain⟨q,b,c,h1,h2,h3,h4,h5,_⟩:=hs.set AB 0;rw[hj];refine⟨s,q,j,an mp 1 H g,h1,?_,λx=>?_⟩
 ·rw[an q j H h2,h5];unfold Y.Mm.at;rw[if_pos ha,ej]
 obtain⟨q',b',c',k1,k2,k3,k4,k5,k6,k7,k8⟩:=hs.set AB x;have eq:q'=q:=by
  have a1:=k1 [];have a2:=h1 [];rw[a1] at a2;simpa using a2
 subst eq;have f:Fr H o (H.put q' c') o [-71]:=(Fr.refl H o [-71]).put λ_=>by simp[k4]
 have em:m.set a x=⟨m.cs.set j x,m.max⟩:=by unfold Y.Mm.set;rw[if_pos ha,ej]
 rw[em];refine⟨_,k7,⟨hK,o,⟨bY,jD,ref,s,ty,?_,ho,k8,by simpa using hl⟩,hK _ _ _ _ hk (f.wk (by simp))⟩⟩
 rw[bz (by rintro rfl;rw[ho] at k4;omega)];exact g
section
variable {α:Type} {k:Nat→Value→aa→Option α} {Q:α→Prop}
theorem Ev.has (h:JM K mp m H){a:Int}(h1:m.used a→∀H',JM K mp m H'→Ev (λn=>k n (.bool true) H') Q)(h2: ¬m.used a→∀H',JM K mp m H'→Ev (λn=>k n (.bool false) H') Q):Ev (λn=>af (run G n 90 [pv mp,cv a] H) (k n)) Q:=
 Ev.call (abe h a) λv H' hq=>by
  obtain⟨rfl,hj⟩:=hq;by_cases e:m.used a
  ·have:decide (m.used a)=true:=by simpa using e
   rw[this];exact h1 e H' hj
  ·have:decide (m.used a)=false:=by simpa using e
   rw[this];exact h2 e H' hj
end
theorem EP {a:Int}(h:m.used a)(hl:m.cs.length≤65536):IntKind.i64.wrap (a-1)=a-1:=fZ (by unfold Y.Mm.used at h;omega)
theorem I5 {a:Int}(h: ¬m.used a):m.at a=0:=by unfold Y.Mm.at;rw[if_neg h]
theorem I6 (h:JM K mp m H)(a:Int):aF (run G) 98 [pv mp,cv a] H λv H'=>v=cv (m.at a)∧JM K mp m H':=by
 refine Ev.up (t:=λk=>F98 (run G k) k (pv mp) (cv a) H) ?_ λk=>We ..
 simp -implicitDefEqProofs only[F98,sS,Nat.reduceAdd];refine Ev.has h (λha H1 hj=>?_) (λha H1 hj=>?_)<;>try simp -implicitDefEqProofs only[sS,Nat.reduceAdd]
 ·obtain⟨s,q,j,e1,e2,e3,e4⟩:=hj.cell ha;simp -implicitDefEqProofs only[e1,EP ha hj.Al,e2,e3,sS,Nat.reduceAdd];exact Ev.ret ⟨rfl,hj⟩
 ·exact Ev.ret ⟨by rw[I5 ha],hj⟩
theorem zo (h:JM K mp m H)(a x:Int):aF (run G) 61 [pv mp,cv a,cv x] H λv H'=>JM K mp (m.set a x) H':=by
 refine Ev.up (t:=λk=>F61 (run G k) k (pv mp) (cv a) (cv x) H) ?_ λk=>XK ..
 simp -implicitDefEqProofs only[F61,sS,Nat.reduceAdd];refine Ev.has h (λha H1 hj=>?_) (λha H1 hj=>?_)<;>try simp -implicitDefEqProofs only[sS,Nat.reduceAdd]
 ·obtain⟨s,q,j,e1,e2,e3,e4⟩:=hj.cell ha;obtain⟨H2,e5,fM⟩:=e4 x;simp -implicitDefEqProofs only[e1,EP ha hj.Al,e2,e5,sS,Nat.reduceAdd];exact Ev.ret fM
 ·refine Ev.ret ?_;have:m.set a x=m:=by unfold Y.Mm.set;rw[if_neg ha]
  show JM K mp (m.set a x) H1
  rw[this];exact hj
theorem Pz (h:JM K mp m H)(a x y:Int):aF (run G) 60 [pv mp,cv a,cv x,cv y] H λv H'=>v= .bool (decide ((Y.dT m (.cs a x y)).1=1))∧JM K mp (Y.dT m (.cs a x y)).2 H':=by
 refine Ev.up (t:=λk=>F60 (run G k) k (pv mp) (cv a) (cv x) (cv y) H) ?_ λk=>Xs ..
 simp -implicitDefEqProofs only[F60,sS,Nat.reduceAdd];refine Ev.has h (λha H1 hj=>?_) (λha H1 hj=>?_)<;>try simp -implicitDefEqProofs only[sS,Nat.reduceAdd]
 ·obtain⟨s,q,j,e1,e2,e3,e4⟩:=hj.cell ha;obtain⟨H2,e5,fM⟩:=e4 y;simp -implicitDefEqProofs only[e1,EP ha hj.Al,e2,e3,sS,Nat.reduceAdd];refine Ev.neq (λhq=>?_) (λhq=>?_)<;>try simp -implicitDefEqProofs only[e1,EP ha hj.Al,e2,e5,sS,Nat.reduceAdd]
  ·refine Ev.ret ?_;have:Y.dT m (.cs a x y)=(0,m):=by simp only[Y.dT];rw[if_neg (λh=>hq h.2)]
   rw[this];exact⟨rfl,hj⟩
  ·refine Ev.ret ?_;have:Y.dT m (.cs a x y)=(1,m.set a y):=by simp only[Y.dT];rw[if_pos ⟨ha,hq⟩]
   rw[this];exact⟨rfl,fM⟩
 ·refine Ev.ret ?_;have:Y.dT m (.cs a x y)=(0,m):=by simp only[Y.dT];rw[if_neg (λh=>ha h.1)]
  rw[this];exact⟨rfl,hj⟩
theorem Yq (h:JM K mp m H)(a x:Int):aF (run G) 99 [pv mp,cv a,cv x] H λv H'=>v=cv (Y.dT m (.ad a x)).1∧JM K mp (Y.dT m (.ad a x)).2 H':=by
 refine Ev.up (t:=λk=>F99 (run G k) k (pv mp) (cv a) (cv x) H) ?_ λk=>XB ..
 simp -implicitDefEqProofs only[F99,sS,Nat.reduceAdd];refine Ev.has h (λha H1 hj=>?_) (λha H1 hj=>?_)<;>try simp -implicitDefEqProofs only[sS,Nat.reduceAdd]
 ·obtain⟨s,q,j,e1,e2,e3,e4⟩:=hj.cell ha;obtain⟨H2,e5,fM⟩:=e4 (IntKind.i64.wrap (m.at a+x));simp -implicitDefEqProofs only[e1,EP ha hj.Al,e2,e3,e5,sS,Nat.reduceAdd];refine Ev.ret ?_;have:Y.dT m (.ad a x)=(m.at a,m.set a (Y.wr (m.at a+x))):=by simp only[Y.dT];rw[if_pos ha]
  rw[this, ←cL];exact⟨rfl,fM⟩
 ·refine Ev.ret ?_;have:Y.dT m (.ad a x)=(0,m):=by simp only[Y.dT];rw[if_neg ha]
  rw[this];exact⟨rfl,hj⟩
theorem I7 (h:JM K mp m H){w:Value}{lw:List Int}(hw:eM H w lw)(Yr:lw≠[]→∀a n c,w= .slice (some a) n c→a.block≠mp):aF (run G) 35 [pv mp,w] H λv H'=>v= .tuple #[cv (Y.dT m (.mk lw)).1,.bool (decide ((Y.dT m (.mk lw)).1>0))]∧JM K mp (Y.dT m (.mk lw)).2 H':=by
 refine Ev.up (t:=λk=>F35 (run G k) k (pv mp) w H) ?_ λk=>Xq ..
 obtain⟨bY,jD,ref,s,ty,g,hl,hj⟩:=h.num;obtain⟨H1,e1⟩: ∃z,z=H.put mp ⟨[cv m.max,s,cv (IntKind.i64.wrap (bY+1)),cv jD,cv ref],ty,1,false⟩:=⟨_,rfl⟩;have fG:=hj (IntKind.i64.wrap (bY+1)) jD ref;rw[←e1] at fG;have g1:H1.get mp=some ⟨[cv m.max,s,cv (IntKind.i64.wrap (bY+1)),cv jD,cv ref],ty,1,false⟩:=by rw[e1];exact aG g
 have L2:aq (.pointer (some ⟨mp,2,none⟩)) H=some (cv bY):=an mp 2 H g;have S2:=gX mp 2 (IntKind.i64.wrap (bY+1)) H g rfl (by simp)
 simp only[List.set_cons_succ,List.set_cons_zero] at S2;rw[←e1] at S2;have M0:aq (pv mp) H1=some (cv m.max):=an mp 0 H1 g1;have M1:aq (.pointer (some ⟨mp,1,none⟩)) H1=some s:=an mp 1 H1 g1;have M4:aq (.pointer (some ⟨mp,4,none⟩)) H1=some (cv ref):=an mp 4 H1 g1;have S4:=gX mp 4 (IntKind.i64.wrap (ref+1)) H1 g1 rfl (by simp)
 simp only[List.set_cons_succ,List.set_cons_zero] at S4;have fM:JM K mp m (H1.put mp ⟨[cv m.max,s,cv (IntKind.i64.wrap (bY+1)),cv jD,cv (IntKind.i64.wrap (ref+1))],ty,1,false⟩):=by
  obtain⟨c2,o2,r2,s2,mQ,g2,_,fM⟩:=fG.num;rw[g1] at g2;cases g2;exact fM _ _ _
 have BL:eM H1 w lw:=by
  refine hw.keep λi b e dz=>?_
  rw[e1,bz (Yr dz b _ _ e)]
 have S9:=h.Al;obtain⟨hK,o,⟨fS,qM,qN,s',A8,g',ho,hs,MQ⟩,hk⟩:=id fG;rw[g1] at g';obtain⟨rfl,rfl,rfl,rfl,rfl⟩:s'=s∧fS=IntKind.i64.wrap (bY+1)∧qM=jD∧qN=ref∧A8=ty:=by
  injection g' with g';injection g' with a b c d;injection a with a1 a2;injection a2 with a3 a4;injection a4 with a5 a6;injection a6 with a7 a8;injection a8 with a9 a10;injection a5 with _ a5;injection a7 with _ a7;injection a9 with _ a9;exact⟨a3.symm,a5.symm,a7.symm,a9.symm,b.symm⟩
 simp -implicitDefEqProofs only[F35,L2,S2,hw.len,sS,Nat.reduceAdd];refine Ev.eql (λhq=>?_) (λhq=>?_)<;>try simp -implicitDefEqProofs only[hw.len,M0,M1,M4,S4,hl,sS,Nat.reduceAdd]
 ·refine Ev.ret ?_;have:Y.dT m (.mk lw)=(0,m):=by simp only[Y.dT];rw[if_pos (.inl (List.length_eq_zero_iff.1 (by omega)))]
  rw[this];exact⟨rfl,fM⟩
 have hw9:IntKind.i64.wrap (m.max-m.cs.length)=m.max-m.cs.length:=fZ (by omega)
 simp -implicitDefEqProofs only[hw9,sS,Nat.reduceAdd];refine Ev.gtr (λkB=>?_) (λkB=>?_)<;>try simp -implicitDefEqProofs only[M0,M1,M4,S4,hl,sS,Nat.reduceAdd]
 ·refine Ev.ret ?_;have:Y.dT m (.mk lw)=(0,m):=by simp only[Y.dT];rw[if_pos (.inr (by omega))]
  rw[this];exact⟨rfl,fM⟩
 have hmk:Y.dT m (.mk lw)=((m.cs.length:Int)+1,⟨m.cs++lw,m.max⟩):=by
  simp only[Y.dT];rw[if_neg (by
   rintro(h|h)
   ·subst h;simp at hq
   ·omega)]
 obtain⟨x',H2,o2,a2,s2,f2,k2⟩:=jY 2 hs BL (by omega)
 have g2:H2.get mp=some ⟨[cv m.max,s',cv (IntKind.i64.wrap (bY+1)),cv qM,cv qN],A8,1,false⟩:=by rw[f2.same mp (ar g1) (by rw[ho];simp)];exact g1
 have Di:o2 mp= -70:=by rw[f2.own mp (ar g1)];exact ho
 obtain⟨ba,bc,ex⟩:=s2.isSlice;have S1:=Gm mp 1 ba (m.cs++lw).length bc H2 g2 rfl (by simp)
 rw[←ex] at S1;simp only[List.set_cons_succ,List.set_cons_zero] at S1;have hwa:IntKind.i64.wrap ((m.cs.length:Int)+1)=(m.cs.length:Int)+1:=fZ (by omega)
 simp -implicitDefEqProofs only[a2,S1,hwa,sS,Nat.reduceAdd];have f3:Fr H2 o2 (H2.put mp ⟨[cv m.max,x',cv (IntKind.i64.wrap (bY+1)),cv qM,cv qN],A8,1,false⟩) o2 [-70]:=(Fr.refl H2 o2 [-70]).put λ_=>by simp[Di]
 refine Ev.ret ?_;rw[hmk];refine⟨?_,hK,o2,⟨_,_,_,x',A8,aG g2,Di,s2.fr f3 (by simp),by simp;omega,MQ.2⟩,hK _ _ _ _ hk (f2.trans f3 (by simp) (by simp))⟩
 have:decide ((m.cs.length:Int)+1>0)=true:=decide_eq_true (by omega)
 simp only[this]
theorem adw (h:JM K mp m H){q:Y.Ask}{k a y z:Int}{w:Value}{lw:List Int}(hq:IT q k a y z lw)(hw:eM H w lw)(Yr:lw≠[]→∀a n c,w= .slice (some a) n c→a.block≠mp):aF (run G) 71 [pv mp,nv k a y z w] H λv H'=>v=cv (Y.dT m q).1∧JM K mp (Y.dT m q).2 H':=by
 refine Ev.up (t:=λn=>F71 (run G n) n (pv mp) (nv k a y z w) H) ?_ λn=>OD ..
 obtain⟨wb,wc,ew⟩:=hw.isSlice;obtain⟨H1,e1⟩: ∃z',z'=H.new ⟨[cv k,cv a,cv y,cv z,w],112,1,false⟩:=⟨_,rfl⟩;have bx:=CO k a y z (b:=wb) (n:=lw.length) (c:=wc) H;rw[←ew, ←e1] at bx;have fG:JM K mp m H1:=by
  obtain⟨hK,o,hm,hk⟩:=h;have f:Fr H o H1 (o.up H.length (-9)) []:=by rw[e1];exact(Fr.refl H o []).new _ _
  exact⟨hK,_,hm.fr f (by simp) (by simp),hK _ _ _ _ hk (f.wk (by simp))⟩
 have g1:H1.get H.length=some ⟨[cv k,cv a,cv y,cv z,w],112,1,false⟩:=by rw[e1];exact aL
 have L0:aq (pv H.length) H1=some (cv k):=an H.length 0 H1 g1;have L1:aq (.pointer (some ⟨H.length,1,none⟩)) H1=some (cv a):=an H.length 1 H1 g1;have L2:aq (.pointer (some ⟨H.length,2,none⟩)) H1=some (cv y):=an H.length 2 H1 g1;have L3:aq (.pointer (some ⟨H.length,3,none⟩)) H1=some (cv z):=an H.length 3 H1 g1;have L4:aq (.pointer (some ⟨H.length,4,none⟩)) H1=some w:=an H.length 4 H1 g1;have BL:eM H1 w lw:=by rw[e1];exact C6 hw _
 have J0: ∀{H2:aa} {m':Y.Mm} (x4 x3 x8 x9 aW bJ bP cr cJ x5:Value),JM K mp m' H2→Ev (λn=>yA (run G n) n [pv mp,nv k a y z w,x4,x3,x8,x9,aW,bJ,bP,cr,cJ,x5] H2) λr=>r.1=cv 0∧JM K mp m' r.2:=by
  intro H2 m' x4 x3 x8 x9 aW bJ bP cr cJ x5 hj;simp -implicitDefEqProofs only[Ee,vM,sS,Nat.reduceAdd];exact Ev.ret ⟨rfl,hj⟩
 simp -implicitDefEqProofs only[F71,bx,L0,Nat.add_zero,sS,Nat.reduceAdd];cases q with
 |rd a'=>
  obtain⟨rfl,rfl⟩:=hq;refine Ev.eql (λ_=>?_) (λh=>absurd rfl h)
  try simp -implicitDefEqProofs only[L1,L2,L3,L4,sS,Nat.reduceAdd]
  refine Ev.call (I6 fG a) ?_;rintro v H2 ⟨rfl,hj⟩;exact Ev.ret ⟨rfl,hj⟩
 |wr a' x'=>
  obtain⟨rfl,rfl,rfl⟩:=hq;refine Ev.eql (λh=>absurd h (by decide)) (λ_=>?_)
  try simp -implicitDefEqProofs only[sS,Nat.reduceAdd]
  refine Ev.eql (λ_=>?_) (λh=>absurd rfl h)
  try simp -implicitDefEqProofs only[L1,L2,L3,L4,sS,Nat.reduceAdd]
  refine Ev.call (zo fG a y) ?_;rintro v H2 hj;exact J0 _ _ _ _ _ _ _ _ _ _ hj
 |cs a' x' y'=>
  obtain⟨rfl,rfl,rfl,rfl⟩:=hq;refine Ev.eql (λh=>absurd h (by decide)) (λ_=>?_)
  try simp -implicitDefEqProofs only[sS,Nat.reduceAdd]
  refine Ev.eql (λh=>absurd h (by decide)) (λ_=>?_)
  try simp -implicitDefEqProofs only[sS,Nat.reduceAdd]
  refine Ev.eql (λ_=>?_) (λh=>absurd rfl h)
  try simp -implicitDefEqProofs only[L1,L2,L3,L4,sS,Nat.reduceAdd]
  refine Ev.call (Pz fG a y z) ?_;rintro v H2 ⟨rfl,hj⟩;by_cases e:(Y.dT m (.cs a y z)).1=1
  ·have:decide ((Y.dT m (.cs a y z)).1=1)=true:=by simpa using e
   simp -implicitDefEqProofs only[this,sS,Nat.reduceAdd];exact Ev.ret ⟨by rw[e],hj⟩
  ·have:decide ((Y.dT m (.cs a y z)).1=1)=false:=by simpa using e
   simp -implicitDefEqProofs only[this,sS,Nat.reduceAdd];have e0:(Y.dT m (.cs a y z)).1=0:=by
    revert e;simp only[Y.dT];split<;>simp
   rw[e0];exact J0 _ _ _ _ _ _ _ _ _ _ hj
 |ad a' x'=>
  obtain⟨rfl,rfl,rfl⟩:=hq;refine Ev.eql (λh=>absurd h (by decide)) (λ_=>?_)
  try simp -implicitDefEqProofs only[sS,Nat.reduceAdd]
  refine Ev.eql (λh=>absurd h (by decide)) (λ_=>?_)
  try simp -implicitDefEqProofs only[sS,Nat.reduceAdd]
  refine Ev.eql (λh=>absurd h (by decide)) (λ_=>?_)
  try simp -implicitDefEqProofs only[sS,Nat.reduceAdd]
  refine Ev.eql (λ_=>?_) (λh=>absurd rfl h)
  try simp -implicitDefEqProofs only[L1,L2,L3,L4,sS,Nat.reduceAdd]
  refine Ev.call (Yq fG a y) ?_;rintro v H2 ⟨rfl,hj⟩;exact Ev.ret ⟨rfl,hj⟩
 |mk w'=>
  obtain⟨rfl,rfl⟩:=hq;refine Ev.eql (λh=>absurd h (by decide)) (λ_=>?_)
  try simp -implicitDefEqProofs only[sS,Nat.reduceAdd]
  refine Ev.eql (λh=>absurd h (by decide)) (λ_=>?_)
  try simp -implicitDefEqProofs only[sS,Nat.reduceAdd]
  refine Ev.eql (λh=>absurd h (by decide)) (λ_=>?_)
  try simp -implicitDefEqProofs only[sS,Nat.reduceAdd]
  refine Ev.eql (λh=>absurd h (by decide)) (λ_=>?_)
  try simp -implicitDefEqProofs only[sS,Nat.reduceAdd]
  refine Ev.eql (λ_=>?_) (λh=>absurd rfl h)
  try simp -implicitDefEqProofs only[L1,L2,L3,L4,sS,Nat.reduceAdd]
  refine Ev.call (I7 fG BL Yr) ?_;rintro v H2 ⟨rfl,hj⟩
  try simp -implicitDefEqProofs only[sS,Nat.reduceAdd]
  exact Ev.ret ⟨rfl,hj⟩
theorem adx (h:JM K mp m H){k:Int}(hk:k=0∨k=1)(a y z:Int){w:Value}{lw:List Int}(hw:eM H w lw):aF (run G) 71 [pv mp,nv k a y z w] H λv H'=>(∃u,v=cv u)∧JM K mp m H':=by
 refine Ev.up (t:=λn=>F71 (run G n) n (pv mp) (nv k a y z w) H) ?_ λn=>OD ..
 obtain⟨wb,wc,ew⟩:=hw.isSlice;obtain⟨H1,e1⟩: ∃z',z'=H.new ⟨[cv k,cv a,cv y,cv z,w],112,1,false⟩:=⟨_,rfl⟩;have bx:=CO k a y z (b:=wb) (n:=lw.length) (c:=wc) H;rw[←ew, ←e1] at bx;have fG:JM K mp m H1:=by
  obtain⟨hK,o,hm,hk⟩:=h;have f:Fr H o H1 (o.up H.length (-9)) []:=by rw[e1];exact(Fr.refl H o []).new _ _
  exact⟨hK,_,hm.fr f (by simp) (by simp),hK _ _ _ _ hk (f.wk (by simp))⟩
 have g1:H1.get H.length=some ⟨[cv k,cv a,cv y,cv z,w],112,1,false⟩:=by rw[e1];exact aL
 have L0:aq (pv H.length) H1=some (cv k):=an H.length 0 H1 g1;have L1:aq (.pointer (some ⟨H.length,1,none⟩)) H1=some (cv a):=an H.length 1 H1 g1;simp -implicitDefEqProofs only[F71,bx,L0,Nat.add_zero,sS,Nat.reduceAdd];refine Ev.eql (λhq=>?_) (λhq=>?_)<;>try simp -implicitDefEqProofs only[L1,sS,Nat.reduceAdd]
 ·refine Ev.call (I6 fG a) ?_;rintro v H2 ⟨rfl,hj⟩;exact Ev.ret ⟨⟨_,rfl⟩,hj⟩
 refine Ev.eql (λhq=>?_) (λhq=>?_)<;>try simp -implicitDefEqProofs only[sS,Nat.reduceAdd]
 ·omega
 refine Ev.eql (λhq=>?_) (λhq=>?_)<;>try simp -implicitDefEqProofs only[sS,Nat.reduceAdd]
 ·omega
 refine Ev.eql (λhq=>?_) (λhq=>?_)<;>try simp -implicitDefEqProofs only[sS,Nat.reduceAdd]
 ·omega
 refine Ev.eql (λhq=>?_) (λhq=>?_)<;>try simp -implicitDefEqProofs only[sS,Nat.reduceAdd]
 ·omega
 simp -implicitDefEqProofs only[Ee,vM,sS,Nat.reduceAdd];exact Ev.ret ⟨⟨_,rfl⟩,fG⟩
end
section
open Go.Proofs.YtgfgglponbmgmaaGreatA
variable {G:ae} {H H':aa} {o o':aj} {p m c f n i:Nat} {K K':aa→aj→Prop} {q:Int} {x:Value} {l:PL} {cs:List Value} {T:TypeId} {st:Y.St}
structure eO where
 word:Int
 num:Int
 res:eN
abbrev gL:eO:=⟨0,0,bQ⟩
abbrev ax (a b p q:Int)(op:kf):List Value:=[cv a,cv b,cv 0,cv p,cv q,cv 0,cv 0,.bool false,cv 0,.bool false,aA,aA,aA,aA,aA,cv 0,cv 0,cv 0,cv op.kind,cv op.key,cv op.value]
abbrev oc (r:eO)(s:Value):List Value:=[cv r.word,.bool false,cv r.num,cv 0,cv 0,aA,aA,cv r.res.Ex,.bool r.res.found,cv r.res.key,cv r.res.value,cv r.res.n,s]
abbrev fc (proc a b p q:Int)(op:kf)(tape:Value)(done:Bool)(r:eO)(s:Value)(rec laid:Int):List Value:=cv proc::(ax a b p q op++tape:: .bool done::(oc r s++[cv rec,cv laid]))
variable {proc a b' pp qq rec laid:Int} {op:kf} {tape s0:Value} {done:Bool} {r0:eO}
theorem I4:aE Tryz.prog 49 []=some (.agg (oc gL aA).toArray):=by kernel_rfl
theorem uF (i:Nat)(r:eO){s:Value}{a:Option Addr}{k c:Nat}(es:s= .slice a k c)(r0:eO)(s0:Value){T:TypeId}(H:aa)(h:H.get i=some ⟨oc r0 s0,T,1,false⟩):bE 13 (pv i) (.agg (oc r s).toArray) H=some (undef,H.put i ⟨oc r s,T,1,false⟩):=by
 subst es;simp[bE,bX,h,Value.cells,known,aD,dv]
theorem zn (i:Nat)(r:eO)(s:Value){T:TypeId}(H:aa)(h:H.get i=some ⟨oc r s,T,1,false⟩):c8 13 (pv i) H=some (.agg (oc r s).toArray):=by
 simp[c8,aR,h]
theorem Pw (i:Nat)(r:eN){s:Value}{a:Option Addr}{k c:Nat}(es:s= .slice a k c)(r0:eO)(s0:Value){T:TypeId}(H:aa)(h:H.get i=some ⟨oc r0 s0,T,1,false⟩):bE 6 (.pointer (some ⟨i,7,none⟩)) (gu r s) H=some (undef,H.put i ⟨oc {r0 with res:=r} s,T,1,false⟩):=by
 subst es;simp[bE,bX,h,Value.cells,known,aD,dv]
theorem Px (i:Nat)(a b p q:Int)(op:kf)(a0 b0 p0 q0:Int)(op0:kf){T:TypeId}(H:aa)(h:H.get i=some ⟨ax a0 b0 p0 q0 op0,T,1,false⟩):bE 21 (pv i) (.agg (ax a b p q op).toArray) H=some (undef,H.put i ⟨ax a b p q op,T,1,false⟩):=by
 simp[bE,bX,h,Value.cells,known,aD,dv]
theorem GL (f:Nat)(H:aa)(h:H.get f=some ⟨fc proc a b' pp qq op tape done r0 s0 rec laid,T,1,false⟩):c8 21 (.pointer (some ⟨f,1,none⟩)) H=some (.agg (ax a b' pp qq op).toArray):=by
 simp[c8,aR,h]
theorem Py (i:Nat)(H:aa)(h:H.get i=some ⟨ax a b' pp qq op,T,1,false⟩):c8 3 (.pointer (some ⟨i,18,none⟩)) H=some (jr op):=by
 simp[c8,aR,h]
structure KH (B:aa) (b:aj) (p i0 i1 i2:Nat) (xs:List Value) (r2:eO) (H:aa) (o:aj):Prop where
 fr:Fr B b H o [(p:Int)]
 k0:Cl i0 (oc gL aA) 49 H o
 k1:Cl i1 xs 41 H o
 k2:Cl i2 (oc r2 aA) 49 H o
 od:B.length≤i0∧i0<i1∧i1<i2
section
variable {B:aa} {b:aj} {i0 i1 i2:Nat} {xs:List Value} {r2:eO}
theorem KH.eZ:bK [(p:Int)] (KH B b p i0 i1 i2 xs r2):=λH o H' o' h f=>⟨h.fr.tr f,h.k0.fr f (by simp),h.k1.fr f (by simp),h.k2.fr f (by simp),h.od⟩
abbrev KB0 (B:aa)(b:aj)(p:Nat):aa→aj→Prop:=λH o=>Fr B b H o [(p:Int)]
structure Pre (H:aa) (b:aj) (p f i0 i1 i2:Nat) (proc a b' pp qq:Int) (op:kf) (st:Y.St) (H1 H2 H3 H4:aa):Prop where
 n0:aS H 49 1 [cv 0,.bool false,cv 0,cv 0,cv 0,aA,aA,cv 0,.bool false,cv 0,cv 0,cv 0,aA]=(pv i0,H1)
 l1:c8 21 (.pointer (some ⟨f,1,none⟩)) H1=some (.agg (ax a b' pp qq op).toArray)
 n1:aS H1 41 1 [cv 0,cv 0,cv 0,cv 0,cv 0,cv 0,cv 0,.bool false,cv 0,.bool false,aA,aA,aA,aA,aA,cv 0,cv 0,cv 0,cv 0,cv 0,cv 0]=(pv i1,H2)
 s1:bE 21 (pv i1) (.agg (ax a b' pp qq op).toArray) H2=some (undef,H3)
 n2:aS H3 49 1 [cv 0,.bool false,cv 0,cv 0,cv 0,aA,aA,cv 0,.bool false,cv 0,cv 0,cv 0,aA]=(pv i2,H4)
 s2:bE 13 (pv i2) (.agg (oc gL aA).toArray) H4=some (undef,H4)
 lp:aq (pv f) H4=some (cv proc)
 j4:JX (KH H b p i0 i1 i2 (ax a b' pp qq op) gL) p st H4
theorem PA (hr:y3 H b p st)(hf:H.get f=some ⟨fc proc a b' pp qq op tape done r0 s0 rec laid,T,1,false⟩)(GM:b f≠p): ∃i0 i1 i2 H1 H2 H3 H4,Pre H b p f i0 i1 i2 proc a b' pp qq op st H1 H2 H3 H4:=by
 obtain⟨i0,e0⟩: ∃i,i=H.length:=⟨_,rfl⟩;obtain⟨i1,e1⟩: ∃i,i=H.length+1:=⟨_,rfl⟩;obtain⟨i2,e2⟩: ∃i,i=H.length+2:=⟨_,rfl⟩;have Fa:=ar hf;obtain⟨H1,ga⟩: ∃z,z=H.new ⟨oc gL aA,49,1,false⟩:=⟨_,rfl⟩;have l1:H1.length=H.length+1:=by rw[ga,cB]
 obtain⟨H2,iD⟩: ∃z,z=H1.new ⟨ax 0 0 0 0 ⟨0,0,0⟩,41,1,false⟩:=⟨_,rfl⟩;have l2:H2.length=H.length+2:=by rw[iD,cB,l1]
 have g2:H2.get i1=some ⟨ax 0 0 0 0 ⟨0,0,0⟩,41,1,false⟩:=by rw[iD,e1, ←l1];exact aL
 obtain⟨H3,mA⟩: ∃z,z=H2.put i1 ⟨ax a b' pp qq op,41,1,false⟩:=⟨_,rfl⟩;have l3:H3.length=H.length+2:=by rw[mA,iL,l2]
 obtain⟨H4,pP⟩: ∃z,z=H3.new ⟨oc gL aA,49,1,false⟩:=⟨_,rfl⟩;have fG:JX (λH' o=>Fr H b H' o [(p:Int)]∧Cl i0 (oc gL aA) 49 H' o) p st H1:=by
  rw[ga];have Pl:JX (λH' o=>Fr H b H' o [(p:Int)]) p st H:=⟨bK.base (by simp),b,hr,Fr.refl _ _ _⟩
  refine Pl.nG _ _ 1 ((bK.base (by simp)).and λH o H' o' a f=>a.fr f (by simp)) λo hk f=>⟨hk.new _ _,?_⟩
  rw[e0];exact Cl.made
 have fM:JX (λH' o=>(Fr H b H' o [(p:Int)]∧Cl i0 (oc gL aA) 49 H' o)∧Cl i1 (ax 0 0 0 0 ⟨0,0,0⟩) 41 H' o) p st H2:=by
  rw[iD];refine fG.nG _ _ 1 (fG.1.and λH o H' o' a f=>a.fr f (by simp)) λo hk f=>⟨⟨hk.1.new _ _,hk.2.new⟩,?_⟩
  rw[e1, ←l1];exact Cl.made
 have gF:JX (λH' o=>(Fr H b H' o [(p:Int)]∧Cl i0 (oc gL aA) 49 H' o)∧Cl i1 (ax a b' pp qq op) 41 H' o) p st H3:=by
  rw[mA];refine fM.tY (λo hg=>hg.2) (fG.1.and λH o H' o' a f=>a.fr f (by simp)) λo hg=>⟨⟨hg.1.1.put λhh=>by omega,hg.1.2.put (by omega)⟩,hg.2.self⟩
 have jb:JX (KH H b p i0 i1 i2 (ax a b' pp qq op) gL) p st H4:=by
  rw[pP];refine gF.nG _ _ 1 KH.eZ λo hk f=>⟨hk.1.1.new _ _,hk.1.2.new,hk.2.new,?_,by omega⟩
  rw[e2, ←l3];exact Cl.made
 have kU: ∀{H':aa} {o':aj},Fr H b H' o' [(p:Int)]→H'.get f=some ⟨fc proc a b' pp qq op tape done r0 s0 rec laid,T,1,false⟩:=λfr=>by rw[fr.same f Fa (by simpa using GM)];exact hf
 have gf1:H1.get f=some ⟨fc proc a b' pp qq op tape done r0 s0 rec laid,T,1,false⟩:=by obtain⟨_,o,_,hk⟩:=fG;exact kU hk.1
 have S1:=Px i1 a b' pp qq op 0 0 0 0 ⟨0,0,0⟩ H2 g2;rw[←mA] at S1;obtain⟨_,o4,_,Mh⟩:=id jb;have S2:=uF i2 gL (s:=aA) rfl gL aA H4 Mh.k2.1;have Yp:H4.put i2 ⟨oc gL aA,49,1,false⟩=H4:=by
  have hl:=ar Mh.k2.1;have hg:=Mh.k2.1;unfold aa.put;apply List.ext_getElem?;intro k;by_cases e:k=i2
  ·subst e;rw[List.getElem?_set_self hl];unfold aa.get at hg;cases hx:H4[k]? with
   |none=>rw[hx] at hg;cases hg
   |some z=>rw[hx] at hg;cases z<;>simp_all
  ·rw[List.getElem?_set_ne (Ne.symm e)]
 rw[Yp] at S2;exact⟨i0,i1,i2,H1,H2,H3,H4,by rw[ga,e0];rfl,GL f H1 gf1,by rw[iD,e1, ←l1];rfl,S1,by rw[pP,e2, ←l3];rfl,S2,an f 0 H4 (kU Mh.fr),jb⟩
theorem KH.args (hj:JX (KH B b p i0 i1 i2 (ax a b' pp qq op) r2) p st H):aq (pv i1) H=some (cv a)∧aq (.pointer (some ⟨i1,1,none⟩)) H=some (cv b')∧aq (.pointer (some ⟨i1,3,none⟩)) H=some (cv pp)∧aq (.pointer (some ⟨i1,4,none⟩)) H=some (cv qq)∧aq (.pointer (some ⟨i1,18,none⟩)) H=some (cv op.kind)∧c8 3 (.pointer (some ⟨i1,18,none⟩)) H=some (jr op):=by
 obtain⟨_,o,_,hg⟩:=hj;exact⟨an i1 0 _ hg.k1.1,an i1 1 _ hg.k1.1,an i1 3 _ hg.k1.1,an i1 4 _ hg.k1.1,an i1 18 _ hg.k1.1,Py _ _ hg.k1.1⟩
theorem KH.fin (hj:JX (KH B b p i0 i1 i2 xs r2) p st H): ∃H2,c8 13 (pv i2) H=some (.agg (oc r2 aA).toArray)∧bE 13 (pv i0) (.agg (oc r2 aA).toArray) H=some (undef,H2)∧c8 13 (pv i0) H2=some (.agg (oc r2 aA).toArray)∧JX (KB0 B b p) p st H2:=by
 obtain⟨_,o,uT,hg⟩:=id hj;exact⟨_,zn i2 r2 aA H hg.k2.1,uF i0 r2 rfl gL aA H hg.k0.1,zn i0 r2 aA (T:=49) _ (aG hg.k0.1),hj.tY (λo hg=>hg.k0) (bK.base (by simp)) λo hg=>hg.fr.put λhh=>by have:=hg.od;omega⟩
theorem KH.res (hj:JX (KH B b p i0 i1 i2 xs r2) p st H)(r:eN): ∃H3,bE 6 (.pointer (some ⟨i2,7,none⟩)) (gu r aA) H=some (undef,H3)∧JX (KH B b p i0 i1 i2 xs {r2 with res:=r}) p st H3:=by
 obtain⟨_,o,uT,hg⟩:=id hj;exact⟨_,Pw i2 r rfl r2 aA H hg.k2.1,hj.tY (λo hg=>hg.k2) KH.eZ λo hg=>⟨hg.fr.put λhh=>by have:=hg.od;omega,hg.k0.put (by have:=hg.od;omega),hg.k1.put (by have:=hg.od;omega),hg.k2.self,hg.od⟩⟩
end
abbrev FF:Nat:=1048577
def Ta (op:kf):Y.Tr eO:=Y.gn (FF+1) (og op) (FF+1) >>= λr=>.ret ⟨0,0,zh r⟩
theorem Ys {b:aj}(hr:y3 H b p st)(hM:st.left≤FF)(hf:H.get f=some ⟨fc 24 a b' pp qq op tape done r0 s0 rec laid,T,1,false⟩)(GM:b f≠p)(vi:1≤op.kind∧op.kind≤3):
  aF (run G) 97 [pv f,pv p] H λv H'=>v= .agg (oc (Y.ah (Ta op) st).1 aA).toArray∧JX (KB0 H b p) p (Y.ah (Ta op) st).2 H':=by
 refine Ev.up (t:=λk=>F97 (run G k) k (pv f) (pv p) H) ?_ λk=>Ov ..
 obtain⟨i0,i1,i2,H1,H2,H3,H4,h⟩:=PA hr hf GM;obtain⟨n0,L1,n1,S1,n2,S2,Lp,jb⟩:=h;obtain⟨_,_,_,_,a0,a2⟩:=KH.args jb;simp -implicitDefEqProofs only[F97,n0,L1,n1,S1,I4,n2,S2,Lp,Nat.add_zero,sS,Nat.reduceAdd];refine Ev.eql (λhq=>?_) (λhq=>?_)<;>try simp -implicitDefEqProofs only[sS,Nat.reduceAdd]
 ·omega
 refine Ev.eql (λhq=>?_) (λhq=>?_)<;>try simp -implicitDefEqProofs only[sS,Nat.reduceAdd]
 ·omega
 refine Ev.eql (λhq=>?_) (λhq=>?_)<;>try simp -implicitDefEqProofs only[sS,Nat.reduceAdd]
 ·omega
 refine Ev.eql (λhq=>?_) (λhq=>?_)<;>try simp -implicitDefEqProofs only[a0,Nat.add_zero,sS,Nat.reduceAdd]
 rotate_left
 ·omega
 refine Ev.lss (λhq=>?_) (λhq=>?_)<;>try simp -implicitDefEqProofs only[a0,Nat.add_zero,sS,Nat.reduceAdd]
 ·omega
 refine Ev.gtr (λhq=>?_) (λhq=>?_)<;>try simp -implicitDefEqProofs only[a2,sS,Nat.reduceAdd]
 ·omega
 refine Ev.call (Pn jb hM op) ?_;rintro v H5 ⟨rfl,hj⟩;generalize hR:Y.ah (Y.gn (FF+1) (og op) (FF+1)) st=R at hj
 obtain⟨rr,s2⟩:=R;have eR:Y.ah (Ta op) st=(⟨0,0,zh rr⟩,s2):=by unfold Ta;rw[Y.aJ hR];rfl
 rw[eR];simp only at hj;obtain⟨H6,g6,oa⟩:=KH.res hj (zh rr);obtain⟨H7,A1,A2,A3,C0⟩:=KH.fin oa;simp -implicitDefEqProofs only[g6,Ed,vK,A1,A2,A3,sS,Nat.reduceAdd];exact Ev.ret ⟨rfl,C0⟩
end
section
open Go.Proofs.YtgfgglponbmgmaaGreatA
inductive Pr where
 |ex (t:Y.Tr eO)
 |rd
abbrev ER (w:Int):eO:=⟨w,0,bQ⟩
abbrev abf (n:Int):eO:=⟨0,n,bQ⟩
def sF (a:Int):Y.Tr eO:=Y.qg a >>= λw=>.ret (ER w)
def PB (a:Int):Y.Tr eO:=Y.yZ a >>= λ_=>.ret gL
def PC (a:Int):Y.Tr eO:=Y.kA FF a >>= λw=>.ret (ER w)
def PD (a b p q:Int):Y.Tr eO:=Y.su a b p q >>= λn=>.ret (abf n)
def Br (t:Y.Tr eO)(proc a b p q:Int):Prop:=
 (proc=11∧t=sF a)∨(proc=12∧(-9223372036854775808≤a∧a≤65536)∧t=PB a)∨(proc=13∧t=PC a)∨(proc=14∧t=PD a b p q)
theorem Br.proc {t:Y.Tr eO}{proc a b p q:Int}(h:Br t proc a b p q):11≤proc∧proc≤16:=by
 rcases h with⟨h,_⟩|⟨h,_⟩|⟨h,_⟩|⟨h,_⟩<;>omega
theorem Br.list {t:Y.Tr eO}{proc a b p q:Int}(h:Br t proc a b p q)(st:Y.St):(Y.ah t st).1.res.list=[]:=by
 rcases h with⟨_,rfl⟩|⟨_,_,rfl⟩|⟨_,rfl⟩|⟨_,rfl⟩
 ·unfold sF;rw[Y.al];rfl
 ·unfold PB;rw[Y.al];rfl
 ·unfold PC;rw[Y.al];rfl
 ·unfold PD;rw[Y.al];rfl
variable {G:ae} {H H':aa} {o o':aj} {p m c f n i:Nat} {K K':aa→aj→Prop} {q:Int} {x:Value} {l:PL} {cs:List Value} {T:TypeId} {st:Y.St} {proc a b' pp qq rec laid:Int} {op:kf} {tape s0:Value} {done:Bool} {r0:eO}
section
variable {B:aa} {b:aj} {i0 i1 i2:Nat} {xs:List Value}
theorem KH.word (hj:JX (KH B b p i0 i1 i2 xs gL) p st H)(w:Int): ∃H3,bE 1 (pv i2) (cv w) H=some (undef,H3)∧JX (KH B b p i0 i1 i2 xs (ER w)) p st H3:=by
 obtain⟨_,o,uT,hg⟩:=id hj;have S:=gX i2 0 w H hg.k2.1 rfl (by simp)
 exact⟨_,S,hj.tY (λo hg=>hg.k2) KH.eZ λo hg=>⟨hg.fr.put λhh=>by have:=hg.od;omega,hg.k0.put (by have:=hg.od;omega),hg.k1.put (by have:=hg.od;omega),hg.k2.self,hg.od⟩⟩
theorem KH.ady (hj:JX (KH B b p i0 i1 i2 xs gL) p st H)(w:Int): ∃H3,bE 1 (.pointer (some ⟨i2,2,none⟩)) (cv w) H=some (undef,H3)∧JX (KH B b p i0 i1 i2 xs (abf w)) p st H3:=by
 obtain⟨_,o,uT,hg⟩:=id hj;have S:=gX i2 2 w H hg.k2.1 rfl (by simp)
 exact⟨_,S,hj.tY (λo hg=>hg.k2) KH.eZ λo hg=>⟨hg.fr.put λhh=>by have:=hg.od;omega,hg.k0.put (by have:=hg.od;omega),hg.k1.put (by have:=hg.od;omega),hg.k2.self,hg.od⟩⟩
end
theorem abg {b:aj}{t:Y.Tr eO}(hr:y3 H b p st)(hM:st.left≤FF)(hf:H.get f=some ⟨fc proc a b' pp qq op tape done r0 s0 rec laid,T,1,false⟩)(GM:b f≠p)(hl:Br t proc a b' pp qq):
  aF (run G) 95 [pv f,pv p] H λv H'=>v= .agg (oc (Y.ah t st).1 aA).toArray∧JX (KB0 H b p) p (Y.ah t st).2 H':=by
 refine Ev.up (t:=λk=>F95 (run G k) k (pv f) (pv p) H) ?_ λk=>XA ..
 obtain⟨i0,i1,i2,H1,H2,H3,H4,h⟩:=PA hr hf GM;obtain⟨n0,L1,n1,S1,n2,S2,Lp,jb⟩:=h;obtain⟨A0,A1,A3,A4,_,_⟩:=KH.args jb;have J0: ∀{r2:eO} {s':Y.St} {H':aa} (aW aU bJ bS cp cM eQ:Value),JX (KH H b p i0 i1 i2 (ax a b' pp qq op) r2) p s' H'→Y.ah t st=(r2,s')→Ev (λk=>nr (run G k) k [pv f,pv p,pv i0,aW,aU,pv i1,pv i2,bJ,bS,cp,cM,eQ] H') λr=>r.1= .agg (oc (Y.ah t st).1 aA).toArray∧JX (KB0 H b p) p (Y.ah t st).2 r.2:=by
  intro r2 s' H' aW aU bJ bS cp cM eQ hj e;obtain⟨H7,B1,B2,B3,C0⟩:=KH.fin hj;simp -implicitDefEqProofs only[Ou,CG,B1,B2,B3,sS,Nat.reduceAdd];rw[e];exact Ev.ret ⟨rfl,C0⟩
 simp -implicitDefEqProofs only[F95,n0,L1,n1,S1,I4,n2,S2,Lp,Nat.add_zero,sS,Nat.reduceAdd];rcases hl with⟨rfl,rfl⟩|⟨rfl,ha,rfl⟩|⟨rfl,rfl⟩|⟨rfl,rfl⟩
 ·refine Ev.eql (λ_=>?_) (λhq=>absurd rfl hq)
  simp -implicitDefEqProofs only[A0,A1,A3,A4,Nat.add_zero,sS,Nat.reduceAdd];refine Ev.eY (OY jb a) λz s1 H5 ez hj=>?_
  obtain⟨H6,g6,oa⟩:=KH.word hj z;simp -implicitDefEqProofs only[Nat.add_zero,g6,sS,Nat.reduceAdd];exact J0 _ _ _ _ _ _ _ oa (by unfold sF;rw[Y.aJ ez];rfl)
 ·refine Ev.eql (λhq=>absurd hq (by decide)) (λ_=>?_)
  try simp -implicitDefEqProofs only[sS,Nat.reduceAdd]
  refine Ev.eql (λ_=>?_) (λhq=>absurd rfl hq)
  simp -implicitDefEqProofs only[A0,A1,A3,A4,Nat.add_zero,sS,Nat.reduceAdd];refine Ev.Zk (OZ jb ha) λv z s1 H5 ez hj=>?_
  exact J0 _ _ _ _ _ _ _ hj (by unfold PB;rw[Y.aJ ez];rfl)
 ·refine Ev.eql (λhq=>absurd hq (by decide)) (λ_=>?_)
  try simp -implicitDefEqProofs only[sS,Nat.reduceAdd]
  refine Ev.eql (λhq=>absurd hq (by decide)) (λ_=>?_)
  try simp -implicitDefEqProofs only[sS,Nat.reduceAdd]
  refine Ev.eql (λ_=>?_) (λhq=>absurd rfl hq)
  simp -implicitDefEqProofs only[A0,A1,A3,A4,Nat.add_zero,sS,Nat.reduceAdd];refine Ev.eY (Gt jb (f:=FF) (by omega) a) λz s1 H5 ez hj=>?_
  obtain⟨H6,g6,oa⟩:=KH.word hj z;simp -implicitDefEqProofs only[Nat.add_zero,g6,sS,Nat.reduceAdd];exact J0 _ _ _ _ _ _ _ oa (by unfold PC;rw[Y.aJ ez];rfl)
 ·refine Ev.eql (λhq=>absurd hq (by decide)) (λ_=>?_)
  try simp -implicitDefEqProofs only[sS,Nat.reduceAdd]
  refine Ev.eql (λhq=>absurd hq (by decide)) (λ_=>?_)
  try simp -implicitDefEqProofs only[sS,Nat.reduceAdd]
  refine Ev.eql (λhq=>absurd hq (by decide)) (λ_=>?_)
  try simp -implicitDefEqProofs only[sS,Nat.reduceAdd]
  refine Ev.eql (λ_=>?_) (λhq=>absurd rfl hq)
  simp -implicitDefEqProofs only[A0,A1,A3,A4,Nat.add_zero,sS,Nat.reduceAdd];refine Ev.eY (CU jb a b' pp qq) λz s1 H5 ez hj=>?_
  obtain⟨H6,g6,oa⟩:=KH.ady hj z;simp -implicitDefEqProofs only[Nat.add_zero,g6,sS,Nat.reduceAdd];exact J0 _ _ _ _ _ _ _ oa (by unfold PD;rw[Y.aJ ez];rfl)
end
end Go.Proofs.YtgfgglponbmgmaaGreat.Fun
end
