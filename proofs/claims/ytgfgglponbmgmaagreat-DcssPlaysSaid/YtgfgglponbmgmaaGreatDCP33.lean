/- Texts of the proof of dcssPlays_holds, put together by a small program of ours (names shortened, spaces taken out). No condition beyond the given statement. -/
import Derived.Test.YtgfgglponbmgmaaGreatDCP10
import Derived.Test.YtgfgglponbmgmaaGreatDCP12
import Derived.Test.YtgfgglponbmgmaaGreatDCP17
import Derived.Test.YtgfgglponbmgmaaGreatDCP18
import Derived.Test.YtgfgglponbmgmaaGreatDCP32
set_option linter.unusedVariables false
set_option linter.unusedSimpArgs false
set_option linter.unnecessarySimpa false
noncomputable section
section
namespace Go.Proofs.YtgfgglponbmgmaaGreat.Fun
open Go Go.RowKit Go.Proofs.YtgfgglponbmgmaaGreatA.Am
set_option maxRecDepth 10000
section
open Go.Proofs.YtgfgglponbmgmaaGreatA
variable {G:ae} {H H':aa} {o o':aj} {mp:Nat} {K:aa→aj→Prop} {m:Y.Mm}
def lL (H:aa)(o:aj)(mp:Nat)(m:Y.Mm):Prop:=
 ∃(cl jH ref:Int) (s:Value) (ty:TypeId),H.get mp=some ⟨[cv m.max,s,cv cl,cv jH,cv ref],ty,1,false⟩∧o mp= -70∧oK H o (-71) s m.cs∧m.cs.length≤m.max∧m.max≤65536
theorem lL.fr {ps:List Int}(h:lL H o mp m)(f:Fr H o H' o' ps)(h1:(-70:Int) ∉ ps)(h2:(-71:Int) ∉ ps):lL H' o' mp m:=by
 obtain⟨cl,jH,ref,s,ty,g,ho,hs,hl⟩:=h;exact⟨cl,jH,ref,s,ty,by rw[f.same mp (ar g) (by rw[ho];exact h1)];exact g,by rw[f.own mp (ar g)];exact ho,hs.fr f h2,hl⟩
theorem lL.look (h:lL H o mp m):qg H mp m:=by
 obtain⟨cl,jH,ref,s,ty,g,ho,hs,hl⟩:=h;exact⟨_,_,_,_,s,ty,g,hs.ints.1⟩
theorem lL.Au (h:lL H o mp m):m.cs.length≤65536∧m.cs.length≤m.max∧m.max≤65536:=by
 obtain⟨_,_,_,_,_,_,_,_,h1,h2⟩:=h;exact⟨by omega,h1,h2⟩
def JM (K:aa→aj→Prop)(mp:Nat)(m:Y.Mm)(H:aa):Prop:=bL [-70, -71] K∧∃o,lL H o mp m∧K H o
theorem JM.Au (h:JM K mp m H):m.cs.length≤65536:=by
 obtain⟨_,o,hm,_⟩:=h;exact hm.Au.1
theorem JM.num (h:JM K mp m H): ∃cl jH ref s ty,H.get mp=some ⟨[cv m.max,s,cv cl,cv jH,cv ref],ty,1,false⟩∧cD s=some (cv m.cs.length)∧∀gR qO qP,JM K mp m (H.put mp ⟨[cv m.max,s,cv gR,cv qO,cv qP],ty,1,false⟩):=by
 obtain⟨hK,o,⟨cl,jH,ref,s,ty,g,ho,hs,hl⟩,hk⟩:=h;refine⟨cl,jH,ref,s,ty,g,hs.ints.1.len,λgR qO qP=>⟨hK,o,⟨gR,qO,qP,s,ty,aH g,ho,?_,hl⟩,hK _ _ _ _ hk ?_⟩⟩
 ·exact hs.fr ((Fr.refl H o [-70]).put λ_=>by simp[ho]) (by simp)
 ·exact((Fr.refl H o [-70]).put λ_=>by simp[ho]).wk (by simp)
theorem abJ (h:JM K mp m H)(a:Int):aF (run G) 90 [pv mp,cv a] H λv H'=>v= .bool (decide (m.used a))∧JM K mp m H':=by
 refine Ev.up (t:=λk=>F90 (run G k) k (pv mp) (cv a) H) ?_ λk=>Xj ..
 obtain⟨cl,jH,ref,s,ty,g,hl,hj⟩:=h.num;obtain⟨H1,e1⟩: ∃z,z=H.put mp ⟨[cv m.max,s,cv (IntKind.i64.wrap (cl+1)),cv jH,cv ref],ty,1,false⟩:=⟨_,rfl⟩;have fH:=hj (IntKind.i64.wrap (cl+1)) jH ref;rw[←e1] at fH;have g1:H1.get mp=some ⟨[cv m.max,s,cv (IntKind.i64.wrap (cl+1)),cv jH,cv ref],ty,1,false⟩:=by rw[e1];exact aH g
 have L2:aq (.pointer (some ⟨mp,2,none⟩)) H=some (cv cl):=an mp 2 H g;have S2:=gY mp 2 (IntKind.i64.wrap (cl+1)) H g rfl (by simp)
 simp only[List.set_cons_succ,List.set_cons_zero] at S2;rw[←e1] at S2;have M1:aq (.pointer (some ⟨mp,1,none⟩)) H1=some s:=an mp 1 H1 g1;have M3:aq (.pointer (some ⟨mp,3,none⟩)) H1=some (cv jH):=an mp 3 H1 g1;have S3:=gY mp 3 (IntKind.i64.wrap (jH+1)) H1 g1 rfl (by simp)
 simp only[List.set_cons_succ,List.set_cons_zero] at S3;have fI:JM K mp m (H1.put mp ⟨[cv m.max,s,cv (IntKind.i64.wrap (cl+1)),cv (IntKind.i64.wrap (jH+1)),cv ref],ty,1,false⟩):=by
  obtain⟨c2,o2,r2,s2,mT,g2,_,fI⟩:=fH.num;rw[g1] at g2;cases g2;exact fI _ _ _
 simp -implicitDefEqProofs only[F90,L2,S2,sS,Nat.reduceAdd];refine Ev.lss (λhq=>?_) (λhq=>?_)<;>try simp -implicitDefEqProofs only[M1,hl,M3,S3,sS,Nat.reduceAdd]
 ·exact Ev.ret ⟨by rw[decide_eq_false (by unfold Y.Mm.used;omega)],fI⟩
 refine Ev.gtr (λhq=>?_) (λhq=>?_)<;>try simp -implicitDefEqProofs only[M3,S3,sS,Nat.reduceAdd]
 ·exact Ev.ret ⟨by rw[decide_eq_false (by unfold Y.Mm.used;omega)],fI⟩
 ·exact Ev.ret ⟨by rw[decide_eq_true (by unfold Y.Mm.used;omega)],fH⟩
theorem JM.cell (h:JM K mp m H){a:Int}(ha:m.used a): ∃s q j,aq (.pointer (some ⟨mp,1,none⟩)) H=some s∧(∀H',cH 1 s (cv (a-1)) H'=some (.pointer (some ⟨q,j,none⟩),H'))∧aq (.pointer (some ⟨q,j,none⟩)) H=some (cv (m.at a))∧
  ∀x:Int,∃H',bD 1 (.pointer (some ⟨q,j,none⟩)) (cv x) H=some (undef,H')∧JM K mp (m.set a x) H':=by
 obtain⟨hK,o,⟨cl,jH,ref,s,ty,g,ho,hs,hl⟩,hk⟩:=h;have ha':=ha;unfold Y.Mm.used at ha';obtain⟨j,hj⟩: ∃j:Nat,a-1=j:=⟨(a-1).toNat,by omega⟩
 have AJ:j<m.cs.length:=by omega
 have ej:(a-1).toNat=j:=by omega
 obtain⟨q,b,c,h1,h2,h3,h4,h5,_⟩:=hs.set AJ 0;rw[hj];refine⟨s,q,j,an mp 1 H g,h1,?_,λx=>?_⟩
 ·rw[an q j H h2,h5];unfold Y.Mm.at;rw[if_pos ha,ej]
 obtain⟨q',b',c',k1,k2,k3,k4,k5,k6,k7,k8⟩:=hs.set AJ x;have eq:q'=q:=by
  have a1:=k1 [];have a2:=h1 [];rw[a1] at a2;simpa using a2
 subst eq;have f:Fr H o (H.put q' c') o [-71]:=(Fr.refl H o [-71]).put λ_=>by simp[k4]
 have em:m.set a x=⟨m.cs.set j x,m.max⟩:=by unfold Y.Mm.set;rw[if_pos ha,ej]
 rw[em];refine⟨_,k7,⟨hK,o,⟨cl,jH,ref,s,ty,?_,ho,k8,by simpa using hl⟩,hK _ _ _ _ hk (f.wk (by simp))⟩⟩
 rw[bA (by rintro rfl;rw[ho] at k4;omega)];exact g
section
variable {α:Type} {k:Nat→Value→aa→Option α} {Q:α→Prop}
theorem Ev.has (h:JM K mp m H){a:Int}(h1:m.used a→∀H',JM K mp m H'→Ev (λn=>k n (.bool true) H') Q)(h2: ¬m.used a→∀H',JM K mp m H'→Ev (λn=>k n (.bool false) H') Q):Ev (λn=>af (run G n 90 [pv mp,cv a] H) (k n)) Q:=
 Ev.call (abJ h a) λv H' hq=>by
  obtain⟨rfl,hj⟩:=hq;by_cases e:m.used a
  ·have:decide (m.used a)=true:=by simpa using e
   rw[this];exact h1 e H' hj
  ·have:decide (m.used a)=false:=by simpa using e
   rw[this];exact h2 e H' hj
end
theorem Ff {a:Int}(h:m.used a)(hl:m.cs.length≤65536):IntKind.i64.wrap (a-1)=a-1:=gz (by unfold Y.Mm.used at h;omega)
theorem JE {a:Int}(h: ¬m.used a):m.at a=0:=by unfold Y.Mm.at;rw[if_neg h]
theorem JF (h:JM K mp m H)(a:Int):aF (run G) 98 [pv mp,cv a] H λv H'=>v=cv (m.at a)∧JM K mp m H':=by
 refine Ev.up (t:=λk=>F98 (run G k) k (pv mp) (cv a) H) ?_ λk=>W1 ..
 simp -implicitDefEqProofs only[F98,sS,Nat.reduceAdd];refine Ev.has h (λha H1 hj=>?_) (λha H1 hj=>?_)<;>try simp -implicitDefEqProofs only[sS,Nat.reduceAdd]
 ·obtain⟨s,q,j,e1,e2,e3,e4⟩:=hj.cell ha;simp -implicitDefEqProofs only[e1,Ff ha hj.Au,e2,e3,sS,Nat.reduceAdd];exact Ev.ret ⟨rfl,hj⟩
 ·exact Ev.ret ⟨by rw[JE ha],hj⟩
theorem Fg (h:JM K mp m H)(a x:Int):aF (run G) 61 [pv mp,cv a,cv x] H λv H'=>JM K mp (m.set a x) H':=by
 refine Ev.up (t:=λk=>F61 (run G k) k (pv mp) (cv a) (cv x) H) ?_ λk=>YL ..
 simp -implicitDefEqProofs only[F61,sS,Nat.reduceAdd];refine Ev.has h (λha H1 hj=>?_) (λha H1 hj=>?_)<;>try simp -implicitDefEqProofs only[sS,Nat.reduceAdd]
 ·obtain⟨s,q,j,e1,e2,e3,e4⟩:=hj.cell ha;obtain⟨H2,e5,fI⟩:=e4 x;simp -implicitDefEqProofs only[e1,Ff ha hj.Au,e2,e5,sS,Nat.reduceAdd];exact Ev.ret fI
 ·refine Ev.ret ?_;have:m.set a x=m:=by unfold Y.Mm.set;rw[if_neg ha]
  show JM K mp (m.set a x) H1
  rw[this];exact hj
theorem Zv (h:JM K mp m H)(a x y:Int):aF (run G) 60 [pv mp,cv a,cv x,cv y] H λv H'=>v= .bool (decide ((Y.dC m (.cs a x y)).1=1))∧JM K mp (Y.dC m (.cs a x y)).2 H':=by
 refine Ev.up (t:=λk=>F60 (run G k) k (pv mp) (cv a) (cv x) (cv y) H) ?_ λk=>Yu ..
 simp -implicitDefEqProofs only[F60,sS,Nat.reduceAdd];refine Ev.has h (λha H1 hj=>?_) (λha H1 hj=>?_)<;>try simp -implicitDefEqProofs only[sS,Nat.reduceAdd]
 ·obtain⟨s,q,j,e1,e2,e3,e4⟩:=hj.cell ha;obtain⟨H2,e5,fI⟩:=e4 y;simp -implicitDefEqProofs only[e1,Ff ha hj.Au,e2,e3,sS,Nat.reduceAdd];refine Ev.neq (λhq=>?_) (λhq=>?_)<;>try simp -implicitDefEqProofs only[e1,Ff ha hj.Au,e2,e5,sS,Nat.reduceAdd]
  ·refine Ev.ret ?_;have:Y.dC m (.cs a x y)=(0,m):=by simp only[Y.dC];rw[if_neg (λh=>hq h.2)]
   rw[this];exact⟨rfl,hj⟩
  ·refine Ev.ret ?_;have:Y.dC m (.cs a x y)=(1,m.set a y):=by simp only[Y.dC];rw[if_pos ⟨ha,hq⟩]
   rw[this];exact⟨rfl,fI⟩
 ·refine Ev.ret ?_;have:Y.dC m (.cs a x y)=(0,m):=by simp only[Y.dC];rw[if_neg (λh=>ha h.1)]
  rw[this];exact⟨rfl,hj⟩
theorem Zw (h:JM K mp m H)(a x:Int):aF (run G) 99 [pv mp,cv a,cv x] H λv H'=>v=cv (Y.dC m (.ad a x)).1∧JM K mp (Y.dC m (.ad a x)).2 H':=by
 refine Ev.up (t:=λk=>F99 (run G k) k (pv mp) (cv a) (cv x) H) ?_ λk=>YD ..
 simp -implicitDefEqProofs only[F99,sS,Nat.reduceAdd];refine Ev.has h (λha H1 hj=>?_) (λha H1 hj=>?_)<;>try simp -implicitDefEqProofs only[sS,Nat.reduceAdd]
 ·obtain⟨s,q,j,e1,e2,e3,e4⟩:=hj.cell ha;obtain⟨H2,e5,fI⟩:=e4 (IntKind.i64.wrap (m.at a+x));simp -implicitDefEqProofs only[e1,Ff ha hj.Au,e2,e3,e5,sS,Nat.reduceAdd];refine Ev.ret ?_;have:Y.dC m (.ad a x)=(m.at a,m.set a (Y.wr (m.at a+x))):=by simp only[Y.dC];rw[if_pos ha]
  rw[this, ←cG];exact⟨rfl,fI⟩
 ·refine Ev.ret ?_;have:Y.dC m (.ad a x)=(0,m):=by simp only[Y.dC];rw[if_neg ha]
  rw[this];exact⟨rfl,hj⟩
theorem JG (h:JM K mp m H){w:Value}{lw:List Int}(hw:eJ H w lw)(Zx:lw≠[]→∀a n c,w= .slice (some a) n c→a.block≠mp):aF (run G) 35 [pv mp,w] H λv H'=>v= .tuple #[cv (Y.dC m (.mk lw)).1,.bool (decide ((Y.dC m (.mk lw)).1>0))]∧JM K mp (Y.dC m (.mk lw)).2 H':=by
 refine Ev.up (t:=λk=>F35 (run G k) k (pv mp) w H) ?_ λk=>Ys ..
 obtain⟨cl,jH,ref,s,ty,g,hl,hj⟩:=h.num;obtain⟨H1,e1⟩: ∃z,z=H.put mp ⟨[cv m.max,s,cv (IntKind.i64.wrap (cl+1)),cv jH,cv ref],ty,1,false⟩:=⟨_,rfl⟩;have fH:=hj (IntKind.i64.wrap (cl+1)) jH ref;rw[←e1] at fH;have g1:H1.get mp=some ⟨[cv m.max,s,cv (IntKind.i64.wrap (cl+1)),cv jH,cv ref],ty,1,false⟩:=by rw[e1];exact aH g
 have L2:aq (.pointer (some ⟨mp,2,none⟩)) H=some (cv cl):=an mp 2 H g;have S2:=gY mp 2 (IntKind.i64.wrap (cl+1)) H g rfl (by simp)
 simp only[List.set_cons_succ,List.set_cons_zero] at S2;rw[←e1] at S2;have M0:aq (pv mp) H1=some (cv m.max):=an mp 0 H1 g1;have M1:aq (.pointer (some ⟨mp,1,none⟩)) H1=some s:=an mp 1 H1 g1;have M4:aq (.pointer (some ⟨mp,4,none⟩)) H1=some (cv ref):=an mp 4 H1 g1;have S4:=gY mp 4 (IntKind.i64.wrap (ref+1)) H1 g1 rfl (by simp)
 simp only[List.set_cons_succ,List.set_cons_zero] at S4;have fI:JM K mp m (H1.put mp ⟨[cv m.max,s,cv (IntKind.i64.wrap (cl+1)),cv jH,cv (IntKind.i64.wrap (ref+1))],ty,1,false⟩):=by
  obtain⟨c2,o2,r2,s2,mT,g2,_,fI⟩:=fH.num;rw[g1] at g2;cases g2;exact fI _ _ _
 have DP:eJ H1 w lw:=by
  refine hw.keep λi b e dx=>?_
  rw[e1,bA (Zx dx b _ _ e)]
 have TY:=h.Au;obtain⟨hK,o,⟨gR,qO,qP,s',Be,g',ho,hs,Nu⟩,hk⟩:=id fH;rw[g1] at g';obtain⟨rfl,rfl,rfl,rfl,rfl⟩:s'=s∧gR=IntKind.i64.wrap (cl+1)∧qO=jH∧qP=ref∧Be=ty:=by
  injection g' with g';injection g' with a b c d;injection a with a1 a2;injection a2 with a3 a4;injection a4 with a5 a6;injection a6 with a7 a8;injection a8 with a9 a10;injection a5 with _ a5;injection a7 with _ a7;injection a9 with _ a9;exact⟨a3.symm,a5.symm,a7.symm,a9.symm,b.symm⟩
 simp -implicitDefEqProofs only[F35,L2,S2,hw.len,sS,Nat.reduceAdd];refine Ev.eql (λhq=>?_) (λhq=>?_)<;>try simp -implicitDefEqProofs only[hw.len,M0,M1,M4,S4,hl,sS,Nat.reduceAdd]
 ·refine Ev.ret ?_;have:Y.dC m (.mk lw)=(0,m):=by simp only[Y.dC];rw[if_pos (.inl (List.length_eq_zero_iff.1 (by omega)))]
  rw[this];exact⟨rfl,fI⟩
 have hw9:IntKind.i64.wrap (m.max-m.cs.length)=m.max-m.cs.length:=gz (by omega)
 simp -implicitDefEqProofs only[hw9,sS,Nat.reduceAdd];refine Ev.gtr (λkE=>?_) (λkE=>?_)<;>try simp -implicitDefEqProofs only[M0,M1,M4,S4,hl,sS,Nat.reduceAdd]
 ·refine Ev.ret ?_;have:Y.dC m (.mk lw)=(0,m):=by simp only[Y.dC];rw[if_pos (.inr (by omega))]
  rw[this];exact⟨rfl,fI⟩
 have hmk:Y.dC m (.mk lw)=((m.cs.length:Int)+1,⟨m.cs++lw,m.max⟩):=by
  simp only[Y.dC];rw[if_neg (by
   rintro(h|h)
   ·subst h;simp at hq
   ·omega)]
 obtain⟨x',H2,o2,a2,s2,f2,k2⟩:=j9 2 hs DP (by omega)
 have g2:H2.get mp=some ⟨[cv m.max,s',cv (IntKind.i64.wrap (cl+1)),cv qO,cv qP],Be,1,false⟩:=by rw[f2.same mp (ar g1) (by rw[ho];simp)];exact g1
 have Dx:o2 mp= -70:=by rw[f2.own mp (ar g1)];exact ho
 obtain⟨ba,bc,ex⟩:=s2.isSlice;have S1:=GR mp 1 ba (m.cs++lw).length bc H2 g2 rfl (by simp)
 rw[←ex] at S1;simp only[List.set_cons_succ,List.set_cons_zero] at S1;have hwa:IntKind.i64.wrap ((m.cs.length:Int)+1)=(m.cs.length:Int)+1:=gz (by omega)
 simp -implicitDefEqProofs only[a2,S1,hwa,sS,Nat.reduceAdd];have f3:Fr H2 o2 (H2.put mp ⟨[cv m.max,x',cv (IntKind.i64.wrap (cl+1)),cv qO,cv qP],Be,1,false⟩) o2 [-70]:=(Fr.refl H2 o2 [-70]).put λ_=>by simp[Dx]
 refine Ev.ret ?_;rw[hmk];refine⟨?_,hK,o2,⟨_,_,_,x',Be,aH g2,Dx,s2.fr f3 (by simp),by simp;omega,Nu.2⟩,hK _ _ _ _ hk (f2.trans f3 (by simp) (by simp))⟩
 have:decide ((m.cs.length:Int)+1>0)=true:=decide_eq_true (by omega)
 simp only[this]
theorem adn (h:JM K mp m H){q:Y.Ask}{k a y z:Int}{w:Value}{lw:List Int}(hq:Js q k a y z lw)(hw:eJ H w lw)(Zx:lw≠[]→∀a n c,w= .slice (some a) n c→a.block≠mp):aF (run G) 71 [pv mp,nw k a y z w] H λv H'=>v=cv (Y.dC m q).1∧JM K mp (Y.dC m q).2 H':=by
 refine Ev.up (t:=λn=>F71 (run G n) n (pv mp) (nw k a y z w) H) ?_ λn=>Pw ..
 obtain⟨wb,wc,ew⟩:=hw.isSlice;obtain⟨H1,e1⟩: ∃z',z'=H.new ⟨[cv k,cv a,cv y,cv z,w],112,1,false⟩:=⟨_,rfl⟩;have bx:=CW k a y z (b:=wb) (n:=lw.length) (c:=wc) H;rw[←ew, ←e1] at bx;have fH:JM K mp m H1:=by
  obtain⟨hK,o,hm,hk⟩:=h;have f:Fr H o H1 (o.up H.length (-9)) []:=by rw[e1];exact(Fr.refl H o []).new _ _
  exact⟨hK,_,hm.fr f (by simp) (by simp),hK _ _ _ _ hk (f.wk (by simp))⟩
 have g1:H1.get H.length=some ⟨[cv k,cv a,cv y,cv z,w],112,1,false⟩:=by rw[e1];exact aK
 have L0:aq (pv H.length) H1=some (cv k):=an H.length 0 H1 g1;have L1:aq (.pointer (some ⟨H.length,1,none⟩)) H1=some (cv a):=an H.length 1 H1 g1;have L2:aq (.pointer (some ⟨H.length,2,none⟩)) H1=some (cv y):=an H.length 2 H1 g1;have L3:aq (.pointer (some ⟨H.length,3,none⟩)) H1=some (cv z):=an H.length 3 H1 g1;have L4:aq (.pointer (some ⟨H.length,4,none⟩)) H1=some w:=an H.length 4 H1 g1;have DP:eJ H1 w lw:=by rw[e1];exact Dg hw _
 have J0: ∀{H2:aa} {m':Y.Mm} (x4 x3 x8 x9 aR bN bR cw cP x5:Value),JM K mp m' H2→Ev (λn=>yI (run G n) n [pv mp,nw k a y z w,x4,x3,x8,x9,aR,bN,bR,cw,cP,x5] H2) λr=>r.1=cv 0∧JM K mp m' r.2:=by
  intro H2 m' x4 x3 x8 x9 aR bN bR cw cP x5 hj;simp -implicitDefEqProofs only[EF,vR,sS,Nat.reduceAdd];exact Ev.ret ⟨rfl,hj⟩
 simp -implicitDefEqProofs only[F71,bx,L0,Nat.add_zero,sS,Nat.reduceAdd];cases q with
 |rd a'=>
  obtain⟨rfl,rfl⟩:=hq;refine Ev.eql (λ_=>?_) (λh=>absurd rfl h)
  try simp -implicitDefEqProofs only[L1,L2,L3,L4,sS,Nat.reduceAdd]
  refine Ev.call (JF fH a) ?_;rintro v H2 ⟨rfl,hj⟩;exact Ev.ret ⟨rfl,hj⟩
 |wr a' x'=>
  obtain⟨rfl,rfl,rfl⟩:=hq;refine Ev.eql (λh=>absurd h (by decide)) (λ_=>?_)
  try simp -implicitDefEqProofs only[sS,Nat.reduceAdd]
  refine Ev.eql (λ_=>?_) (λh=>absurd rfl h)
  try simp -implicitDefEqProofs only[L1,L2,L3,L4,sS,Nat.reduceAdd]
  refine Ev.call (Fg fH a y) ?_;rintro v H2 hj;exact J0 _ _ _ _ _ _ _ _ _ _ hj
 |cs a' x' y'=>
  obtain⟨rfl,rfl,rfl,rfl⟩:=hq;refine Ev.eql (λh=>absurd h (by decide)) (λ_=>?_)
  try simp -implicitDefEqProofs only[sS,Nat.reduceAdd]
  refine Ev.eql (λh=>absurd h (by decide)) (λ_=>?_)
  try simp -implicitDefEqProofs only[sS,Nat.reduceAdd]
  refine Ev.eql (λ_=>?_) (λh=>absurd rfl h)
  try simp -implicitDefEqProofs only[L1,L2,L3,L4,sS,Nat.reduceAdd]
  refine Ev.call (Zv fH a y z) ?_;rintro v H2 ⟨rfl,hj⟩;by_cases e:(Y.dC m (.cs a y z)).1=1
  ·have:decide ((Y.dC m (.cs a y z)).1=1)=true:=by simpa using e
   simp -implicitDefEqProofs only[this,sS,Nat.reduceAdd];exact Ev.ret ⟨by rw[e],hj⟩
  ·have:decide ((Y.dC m (.cs a y z)).1=1)=false:=by simpa using e
   simp -implicitDefEqProofs only[this,sS,Nat.reduceAdd];have e0:(Y.dC m (.cs a y z)).1=0:=by
    revert e;simp only[Y.dC];split<;>simp
   rw[e0];exact J0 _ _ _ _ _ _ _ _ _ _ hj
 |ad a' x'=>
  obtain⟨rfl,rfl,rfl⟩:=hq;refine Ev.eql (λh=>absurd h (by decide)) (λ_=>?_)
  try simp -implicitDefEqProofs only[sS,Nat.reduceAdd]
  refine Ev.eql (λh=>absurd h (by decide)) (λ_=>?_)
  try simp -implicitDefEqProofs only[sS,Nat.reduceAdd]
  refine Ev.eql (λh=>absurd h (by decide)) (λ_=>?_)
  try simp -implicitDefEqProofs only[sS,Nat.reduceAdd]
  refine Ev.eql (λ_=>?_) (λh=>absurd rfl h)
  try simp -implicitDefEqProofs only[L1,L2,L3,L4,sS,Nat.reduceAdd]
  refine Ev.call (Zw fH a y) ?_;rintro v H2 ⟨rfl,hj⟩;exact Ev.ret ⟨rfl,hj⟩
 |mk w'=>
  obtain⟨rfl,rfl⟩:=hq;refine Ev.eql (λh=>absurd h (by decide)) (λ_=>?_)
  try simp -implicitDefEqProofs only[sS,Nat.reduceAdd]
  refine Ev.eql (λh=>absurd h (by decide)) (λ_=>?_)
  try simp -implicitDefEqProofs only[sS,Nat.reduceAdd]
  refine Ev.eql (λh=>absurd h (by decide)) (λ_=>?_)
  try simp -implicitDefEqProofs only[sS,Nat.reduceAdd]
  refine Ev.eql (λh=>absurd h (by decide)) (λ_=>?_)
  try simp -implicitDefEqProofs only[sS,Nat.reduceAdd]
  refine Ev.eql (λ_=>?_) (λh=>absurd rfl h)
  try simp -implicitDefEqProofs only[L1,L2,L3,L4,sS,Nat.reduceAdd]
  refine Ev.call (JG fH DP Zx) ?_;rintro v H2 ⟨rfl,hj⟩
  try simp -implicitDefEqProofs only[sS,Nat.reduceAdd]
  exact Ev.ret ⟨rfl,hj⟩
theorem ado (h:JM K mp m H){k:Int}(hk:k=0∨k=1)(a y z:Int){w:Value}{lw:List Int}(hw:eJ H w lw):aF (run G) 71 [pv mp,nw k a y z w] H λv H'=>(∃u,v=cv u)∧JM K mp m H':=by
 refine Ev.up (t:=λn=>F71 (run G n) n (pv mp) (nw k a y z w) H) ?_ λn=>Pw ..
 obtain⟨wb,wc,ew⟩:=hw.isSlice;obtain⟨H1,e1⟩: ∃z',z'=H.new ⟨[cv k,cv a,cv y,cv z,w],112,1,false⟩:=⟨_,rfl⟩;have bx:=CW k a y z (b:=wb) (n:=lw.length) (c:=wc) H;rw[←ew, ←e1] at bx;have fH:JM K mp m H1:=by
  obtain⟨hK,o,hm,hk⟩:=h;have f:Fr H o H1 (o.up H.length (-9)) []:=by rw[e1];exact(Fr.refl H o []).new _ _
  exact⟨hK,_,hm.fr f (by simp) (by simp),hK _ _ _ _ hk (f.wk (by simp))⟩
 have g1:H1.get H.length=some ⟨[cv k,cv a,cv y,cv z,w],112,1,false⟩:=by rw[e1];exact aK
 have L0:aq (pv H.length) H1=some (cv k):=an H.length 0 H1 g1;have L1:aq (.pointer (some ⟨H.length,1,none⟩)) H1=some (cv a):=an H.length 1 H1 g1;simp -implicitDefEqProofs only[F71,bx,L0,Nat.add_zero,sS,Nat.reduceAdd];refine Ev.eql (λhq=>?_) (λhq=>?_)<;>try simp -implicitDefEqProofs only[L1,sS,Nat.reduceAdd]
 ·refine Ev.call (JF fH a) ?_;rintro v H2 ⟨rfl,hj⟩;exact Ev.ret ⟨⟨_,rfl⟩,hj⟩
 refine Ev.eql (λhq=>?_) (λhq=>?_)<;>try simp -implicitDefEqProofs only[sS,Nat.reduceAdd]
 ·omega
 refine Ev.eql (λhq=>?_) (λhq=>?_)<;>try simp -implicitDefEqProofs only[sS,Nat.reduceAdd]
 ·omega
 refine Ev.eql (λhq=>?_) (λhq=>?_)<;>try simp -implicitDefEqProofs only[sS,Nat.reduceAdd]
 ·omega
 refine Ev.eql (λhq=>?_) (λhq=>?_)<;>try simp -implicitDefEqProofs only[sS,Nat.reduceAdd]
 ·omega
 simp -implicitDefEqProofs only[EF,vR,sS,Nat.reduceAdd];exact Ev.ret ⟨⟨_,rfl⟩,fH⟩
end
section
open Go.Proofs.YtgfgglponbmgmaaGreatA
variable {G:ae} {H H':aa} {o o':aj} {p m c f n i:Nat} {K K':aa→aj→Prop} {q:Int} {x:Value} {l:PL} {cs:List Value} {T:TypeId} {st:Y.St}
structure eE where
 word:Int
 num:Int
 res:eO
abbrev gK:eE:=⟨0,0,bS⟩
abbrev ax (a b p q:Int)(op:ki):List Value:=[cv a,cv b,cv 0,cv p,cv q,cv 0,cv 0,.bool false,cv 0,.bool false,aA,aA,aA,aA,aA,cv 0,cv 0,cv 0,cv op.kind,cv op.key,cv op.value]
abbrev oc (r:eE)(s:Value):List Value:=[cv r.word,.bool false,cv r.num,cv 0,cv 0,aA,aA,cv r.res.ET,.bool r.res.found,cv r.res.key,cv r.res.value,cv r.res.n,s]
abbrev fc (proc a b p q:Int)(op:ki)(tape:Value)(done:Bool)(r:eE)(s:Value)(rec laid:Int):List Value:=cv proc::(ax a b p q op++tape:: .bool done::(oc r s++[cv rec,cv laid]))
variable {proc a b' pp qq rec laid:Int} {op:ki} {tape s0:Value} {done:Bool} {r0:eE}
theorem JD:aE Tryz.prog 49 []=some (.agg (oc gK aA).toArray):=by kernel_rfl
theorem uP (i:Nat)(r:eE){s:Value}{a:Option Addr}{k c:Nat}(es:s= .slice a k c)(r0:eE)(s0:Value){T:TypeId}(H:aa)(h:H.get i=some ⟨oc r0 s0,T,1,false⟩):bD 13 (pv i) (.agg (oc r s).toArray) H=some (undef,H.put i ⟨oc r s,T,1,false⟩):=by
 subst es;simp[bD,bZ,h,Value.cells,known,aC,dz]
theorem zD (i:Nat)(r:eE)(s:Value){T:TypeId}(H:aa)(h:H.get i=some ⟨oc r s,T,1,false⟩):df 13 (pv i) H=some (.agg (oc r s).toArray):=by
 simp[df,aQ,h]
theorem Qp (i:Nat)(r:eO){s:Value}{a:Option Addr}{k c:Nat}(es:s= .slice a k c)(r0:eE)(s0:Value){T:TypeId}(H:aa)(h:H.get i=some ⟨oc r0 s0,T,1,false⟩):bD 6 (.pointer (some ⟨i,7,none⟩)) (gu r s) H=some (undef,H.put i ⟨oc {r0 with res:=r} s,T,1,false⟩):=by
 subst es;simp[bD,bZ,h,Value.cells,known,aC,dz]
theorem Qq (i:Nat)(a b p q:Int)(op:ki)(a0 b0 p0 q0:Int)(op0:ki){T:TypeId}(H:aa)(h:H.get i=some ⟨ax a0 b0 p0 q0 op0,T,1,false⟩):bD 21 (pv i) (.agg (ax a b p q op).toArray) H=some (undef,H.put i ⟨ax a b p q op,T,1,false⟩):=by
 simp[bD,bZ,h,Value.cells,known,aC,dz]
theorem Hq (f:Nat)(H:aa)(h:H.get f=some ⟨fc proc a b' pp qq op tape done r0 s0 rec laid,T,1,false⟩):df 21 (.pointer (some ⟨f,1,none⟩)) H=some (.agg (ax a b' pp qq op).toArray):=by
 simp[df,aQ,h]
theorem Qr (i:Nat)(H:aa)(h:H.get i=some ⟨ax a b' pp qq op,T,1,false⟩):df 3 (.pointer (some ⟨i,18,none⟩)) H=some (jw op):=by
 simp[df,aQ,h]
structure KH (B:aa) (b:aj) (p i0 i1 i2:Nat) (xs:List Value) (r2:eE) (H:aa) (o:aj):Prop where
 fr:Fr B b H o [(p:Int)]
 k0:Cl i0 (oc gK aA) 49 H o
 k1:Cl i1 xs 41 H o
 k2:Cl i2 (oc r2 aA) 49 H o
 od:B.length≤i0∧i0<i1∧i1<i2
section
variable {B:aa} {b:aj} {i0 i1 i2:Nat} {xs:List Value} {r2:eE}
theorem KH.fe:bL [(p:Int)] (KH B b p i0 i1 i2 xs r2):=λH o H' o' h f=>⟨h.fr.tr f,h.k0.fr f (by simp),h.k1.fr f (by simp),h.k2.fr f (by simp),h.od⟩
abbrev KB0 (B:aa)(b:aj)(p:Nat):aa→aj→Prop:=λH o=>Fr B b H o [(p:Int)]
structure Pre (H:aa) (b:aj) (p f i0 i1 i2:Nat) (proc a b' pp qq:Int) (op:ki) (st:Y.St) (H1 H2 H3 H4:aa):Prop where
 n0:aS H 49 1 [cv 0,.bool false,cv 0,cv 0,cv 0,aA,aA,cv 0,.bool false,cv 0,cv 0,cv 0,aA]=(pv i0,H1)
 l1:df 21 (.pointer (some ⟨f,1,none⟩)) H1=some (.agg (ax a b' pp qq op).toArray)
 n1:aS H1 41 1 [cv 0,cv 0,cv 0,cv 0,cv 0,cv 0,cv 0,.bool false,cv 0,.bool false,aA,aA,aA,aA,aA,cv 0,cv 0,cv 0,cv 0,cv 0,cv 0]=(pv i1,H2)
 s1:bD 21 (pv i1) (.agg (ax a b' pp qq op).toArray) H2=some (undef,H3)
 n2:aS H3 49 1 [cv 0,.bool false,cv 0,cv 0,cv 0,aA,aA,cv 0,.bool false,cv 0,cv 0,cv 0,aA]=(pv i2,H4)
 s2:bD 13 (pv i2) (.agg (oc gK aA).toArray) H4=some (undef,H4)
 lp:aq (pv f) H4=some (cv proc)
 j4:JX (KH H b p i0 i1 i2 (ax a b' pp qq op) gK) p st H4
theorem Qs (hr:zh H b p st)(hf:H.get f=some ⟨fc proc a b' pp qq op tape done r0 s0 rec laid,T,1,false⟩)(Hr:b f≠p): ∃i0 i1 i2 H1 H2 H3 H4,Pre H b p f i0 i1 i2 proc a b' pp qq op st H1 H2 H3 H4:=by
 obtain⟨i0,e0⟩: ∃i,i=H.length:=⟨_,rfl⟩;obtain⟨i1,e1⟩: ∃i,i=H.length+1:=⟨_,rfl⟩;obtain⟨i2,e2⟩: ∃i,i=H.length+2:=⟨_,rfl⟩;have Fy:=ar hf;obtain⟨H1,fY⟩: ∃z,z=H.new ⟨oc gK aA,49,1,false⟩:=⟨_,rfl⟩;have l1:H1.length=H.length+1:=by rw[fY,cC]
 obtain⟨H2,iB⟩: ∃z,z=H1.new ⟨ax 0 0 0 0 ⟨0,0,0⟩,41,1,false⟩:=⟨_,rfl⟩;have l2:H2.length=H.length+2:=by rw[iB,cC,l1]
 have g2:H2.get i1=some ⟨ax 0 0 0 0 ⟨0,0,0⟩,41,1,false⟩:=by rw[iB,e1, ←l1];exact aK
 obtain⟨H3,mC⟩: ∃z,z=H2.put i1 ⟨ax a b' pp qq op,41,1,false⟩:=⟨_,rfl⟩;have l3:H3.length=H.length+2:=by rw[mC,iK,l2]
 obtain⟨H4,pM⟩: ∃z,z=H3.new ⟨oc gK aA,49,1,false⟩:=⟨_,rfl⟩;have fH:JX (λH' o=>Fr H b H' o [(p:Int)]∧Cl i0 (oc gK aA) 49 H' o) p st H1:=by
  rw[fY];have Qf:JX (λH' o=>Fr H b H' o [(p:Int)]) p st H:=⟨bL.base (by simp),b,hr,Fr.refl _ _ _⟩
  refine Qf.nG _ _ 1 ((bL.base (by simp)).and λH o H' o' a f=>a.fr f (by simp)) λo hk f=>⟨hk.new _ _,?_⟩
  rw[e0];exact Cl.made
 have fI:JX (λH' o=>(Fr H b H' o [(p:Int)]∧Cl i0 (oc gK aA) 49 H' o)∧Cl i1 (ax 0 0 0 0 ⟨0,0,0⟩) 41 H' o) p st H2:=by
  rw[iB];refine fH.nG _ _ 1 (fH.1.and λH o H' o' a f=>a.fr f (by simp)) λo hk f=>⟨⟨hk.1.new _ _,hk.2.new⟩,?_⟩
  rw[e1, ←l1];exact Cl.made
 have gE:JX (λH' o=>(Fr H b H' o [(p:Int)]∧Cl i0 (oc gK aA) 49 H' o)∧Cl i1 (ax a b' pp qq op) 41 H' o) p st H3:=by
  rw[mC];refine fI.uf (λo hg=>hg.2) (fH.1.and λH o H' o' a f=>a.fr f (by simp)) λo hg=>⟨⟨hg.1.1.put λhh=>by omega,hg.1.2.put (by omega)⟩,hg.2.self⟩
 have jc:JX (KH H b p i0 i1 i2 (ax a b' pp qq op) gK) p st H4:=by
  rw[pM];refine gE.nG _ _ 1 KH.fe λo hk f=>⟨hk.1.1.new _ _,hk.1.2.new,hk.2.new,?_,by omega⟩
  rw[e2, ←l3];exact Cl.made
 have kW: ∀{H':aa} {o':aj},Fr H b H' o' [(p:Int)]→H'.get f=some ⟨fc proc a b' pp qq op tape done r0 s0 rec laid,T,1,false⟩:=λfr=>by rw[fr.same f Fy (by simpa using Hr)];exact hf
 have gf1:H1.get f=some ⟨fc proc a b' pp qq op tape done r0 s0 rec laid,T,1,false⟩:=by obtain⟨_,o,_,hk⟩:=fH;exact kW hk.1
 have S1:=Qq i1 a b' pp qq op 0 0 0 0 ⟨0,0,0⟩ H2 g2;rw[←mC] at S1;obtain⟨_,o4,_,MS⟩:=id jc;have S2:=uP i2 gK (s:=aA) rfl gK aA H4 MS.k2.1;have Zu:H4.put i2 ⟨oc gK aA,49,1,false⟩=H4:=by
  have hl:=ar MS.k2.1;have hg:=MS.k2.1;unfold aa.put;apply List.ext_getElem?;intro k;by_cases e:k=i2
  ·subst e;rw[List.getElem?_set_self hl];unfold aa.get at hg;cases hx:H4[k]? with
   |none=>rw[hx] at hg;cases hg
   |some z=>rw[hx] at hg;cases z<;>simp_all
  ·rw[List.getElem?_set_ne (Ne.symm e)]
 rw[Zu] at S2;exact⟨i0,i1,i2,H1,H2,H3,H4,by rw[fY,e0];rfl,Hq f H1 gf1,by rw[iB,e1, ←l1];rfl,S1,by rw[pM,e2, ←l3];rfl,S2,an f 0 H4 (kW MS.fr),jc⟩
theorem KH.args (hj:JX (KH B b p i0 i1 i2 (ax a b' pp qq op) r2) p st H):aq (pv i1) H=some (cv a)∧aq (.pointer (some ⟨i1,1,none⟩)) H=some (cv b')∧aq (.pointer (some ⟨i1,3,none⟩)) H=some (cv pp)∧aq (.pointer (some ⟨i1,4,none⟩)) H=some (cv qq)∧aq (.pointer (some ⟨i1,18,none⟩)) H=some (cv op.kind)∧df 3 (.pointer (some ⟨i1,18,none⟩)) H=some (jw op):=by
 obtain⟨_,o,_,hg⟩:=hj;exact⟨an i1 0 _ hg.k1.1,an i1 1 _ hg.k1.1,an i1 3 _ hg.k1.1,an i1 4 _ hg.k1.1,an i1 18 _ hg.k1.1,Qr _ _ hg.k1.1⟩
theorem KH.fin (hj:JX (KH B b p i0 i1 i2 xs r2) p st H): ∃H2,df 13 (pv i2) H=some (.agg (oc r2 aA).toArray)∧bD 13 (pv i0) (.agg (oc r2 aA).toArray) H=some (undef,H2)∧df 13 (pv i0) H2=some (.agg (oc r2 aA).toArray)∧JX (KB0 B b p) p st H2:=by
 obtain⟨_,o,u4,hg⟩:=id hj;exact⟨_,zD i2 r2 aA H hg.k2.1,uP i0 r2 rfl gK aA H hg.k0.1,zD i0 r2 aA (T:=49) _ (aH hg.k0.1),hj.uf (λo hg=>hg.k0) (bL.base (by simp)) λo hg=>hg.fr.put λhh=>by have:=hg.od;omega⟩
theorem KH.res (hj:JX (KH B b p i0 i1 i2 xs r2) p st H)(r:eO): ∃H3,bD 6 (.pointer (some ⟨i2,7,none⟩)) (gu r aA) H=some (undef,H3)∧JX (KH B b p i0 i1 i2 xs {r2 with res:=r}) p st H3:=by
 obtain⟨_,o,u4,hg⟩:=id hj;exact⟨_,Qp i2 r rfl r2 aA H hg.k2.1,hj.uf (λo hg=>hg.k2) KH.fe λo hg=>⟨hg.fr.put λhh=>by have:=hg.od;omega,hg.k0.put (by have:=hg.od;omega),hg.k1.put (by have:=hg.od;omega),hg.k2.self,hg.od⟩⟩
end
abbrev FF:Nat:=1048577
def TZ (op:ki):Y.Tr eE:=Y.gk (FF+1) (oa op) (FF+1) >>= λr=>.ret ⟨0,0,zz r⟩
theorem Zy {b:aj}(hr:zh H b p st)(hM:st.left≤FF)(hf:H.get f=some ⟨fc 24 a b' pp qq op tape done r0 s0 rec laid,T,1,false⟩)(Hr:b f≠p)(vp:1≤op.kind∧op.kind≤3):
  aF (run G) 97 [pv f,pv p] H λv H'=>v= .agg (oc (Y.ah (TZ op) st).1 aA).toArray∧JX (KB0 H b p) p (Y.ah (TZ op) st).2 H':=by
 refine Ev.up (t:=λk=>F97 (run G k) k (pv f) (pv p) H) ?_ λk=>Pn ..
 obtain⟨i0,i1,i2,H1,H2,H3,H4,h⟩:=Qs hr hf Hr;obtain⟨n0,L1,n1,S1,n2,S2,Lp,jc⟩:=h;obtain⟨_,_,_,_,a0,a2⟩:=KH.args jc;simp -implicitDefEqProofs only[F97,n0,L1,n1,S1,JD,n2,S2,Lp,Nat.add_zero,sS,Nat.reduceAdd];refine Ev.eql (λhq=>?_) (λhq=>?_)<;>try simp -implicitDefEqProofs only[sS,Nat.reduceAdd]
 ·omega
 refine Ev.eql (λhq=>?_) (λhq=>?_)<;>try simp -implicitDefEqProofs only[sS,Nat.reduceAdd]
 ·omega
 refine Ev.eql (λhq=>?_) (λhq=>?_)<;>try simp -implicitDefEqProofs only[sS,Nat.reduceAdd]
 ·omega
 refine Ev.eql (λhq=>?_) (λhq=>?_)<;>try simp -implicitDefEqProofs only[a0,Nat.add_zero,sS,Nat.reduceAdd]
 rotate_left
 ·omega
 refine Ev.lss (λhq=>?_) (λhq=>?_)<;>try simp -implicitDefEqProofs only[a0,Nat.add_zero,sS,Nat.reduceAdd]
 ·omega
 refine Ev.gtr (λhq=>?_) (λhq=>?_)<;>try simp -implicitDefEqProofs only[a2,sS,Nat.reduceAdd]
 ·omega
 refine Ev.call (Qh jc hM op) ?_;rintro v H5 ⟨rfl,hj⟩;generalize hR:Y.ah (Y.gk (FF+1) (oa op) (FF+1)) st=R at hj
 obtain⟨rr,s2⟩:=R;have eR:Y.ah (TZ op) st=(⟨0,0,zz rr⟩,s2):=by unfold TZ;rw[Y.aI hR];rfl
 rw[eR];simp only at hj;obtain⟨H6,g6,n9⟩:=KH.res hj (zz rr);obtain⟨H7,A1,A2,A3,JA⟩:=KH.fin n9;simp -implicitDefEqProofs only[g6,EE,vP,A1,A2,A3,sS,Nat.reduceAdd];exact Ev.ret ⟨rfl,JA⟩
end
section
open Go.Proofs.YtgfgglponbmgmaaGreatA
inductive Pr where
 |ex (t:Y.Tr eE)
 |rd
abbrev Zz (w:Int):eE:=⟨w,0,bS⟩
abbrev Dk (n:Int):eE:=⟨0,n,bS⟩
def Qt (a:Int):Y.Tr eE:=Y.sw a >>= λw=>.ret (Zz w)
def Qu (a:Int):Y.Tr eE:=Y.zf a >>= λ_=>.ret gK
def Qv (a:Int):Y.Tr eE:=Y.kD FF a >>= λw=>.ret (Zz w)
def nS (a b p q:Int):Y.Tr eE:=Y.qc a b p q >>= λn=>.ret (Dk n)
def By (t:Y.Tr eE)(proc a b p q:Int):Prop:=
 (proc=11∧t=Qt a)∨(proc=12∧(-9223372036854775808≤a∧a≤65536)∧t=Qu a)∨(proc=13∧t=Qv a)∨(proc=14∧t=nS a b p q)
theorem By.proc {t:Y.Tr eE}{proc a b p q:Int}(h:By t proc a b p q):11≤proc∧proc≤16:=by
 rcases h with⟨h,_⟩|⟨h,_⟩|⟨h,_⟩|⟨h,_⟩<;>omega
theorem By.list {t:Y.Tr eE}{proc a b p q:Int}(h:By t proc a b p q)(st:Y.St):(Y.ah t st).1.res.list=[]:=by
 rcases h with⟨_,rfl⟩|⟨_,_,rfl⟩|⟨_,rfl⟩|⟨_,rfl⟩
 ·unfold Qt;rw[Y.al];rfl
 ·unfold Qu;rw[Y.al];rfl
 ·unfold Qv;rw[Y.al];rfl
 ·unfold nS;rw[Y.al];rfl
variable {G:ae} {H H':aa} {o o':aj} {p m c f n i:Nat} {K K':aa→aj→Prop} {q:Int} {x:Value} {l:PL} {cs:List Value} {T:TypeId} {st:Y.St} {proc a b' pp qq rec laid:Int} {op:ki} {tape s0:Value} {done:Bool} {r0:eE}
section
variable {B:aa} {b:aj} {i0 i1 i2:Nat} {xs:List Value}
theorem KH.word (hj:JX (KH B b p i0 i1 i2 xs gK) p st H)(w:Int): ∃H3,bD 1 (pv i2) (cv w) H=some (undef,H3)∧JX (KH B b p i0 i1 i2 xs (Zz w)) p st H3:=by
 obtain⟨_,o,u4,hg⟩:=id hj;have S:=gY i2 0 w H hg.k2.1 rfl (by simp)
 exact⟨_,S,hj.uf (λo hg=>hg.k2) KH.fe λo hg=>⟨hg.fr.put λhh=>by have:=hg.od;omega,hg.k0.put (by have:=hg.od;omega),hg.k1.put (by have:=hg.od;omega),hg.k2.self,hg.od⟩⟩
theorem KH.adp (hj:JX (KH B b p i0 i1 i2 xs gK) p st H)(w:Int): ∃H3,bD 1 (.pointer (some ⟨i2,2,none⟩)) (cv w) H=some (undef,H3)∧JX (KH B b p i0 i1 i2 xs (Dk w)) p st H3:=by
 obtain⟨_,o,u4,hg⟩:=id hj;have S:=gY i2 2 w H hg.k2.1 rfl (by simp)
 exact⟨_,S,hj.uf (λo hg=>hg.k2) KH.fe λo hg=>⟨hg.fr.put λhh=>by have:=hg.od;omega,hg.k0.put (by have:=hg.od;omega),hg.k1.put (by have:=hg.od;omega),hg.k2.self,hg.od⟩⟩
end
theorem abK {b:aj}{t:Y.Tr eE}(hr:zh H b p st)(hM:st.left≤FF)(hf:H.get f=some ⟨fc proc a b' pp qq op tape done r0 s0 rec laid,T,1,false⟩)(Hr:b f≠p)(hl:By t proc a b' pp qq):
  aF (run G) 95 [pv f,pv p] H λv H'=>v= .agg (oc (Y.ah t st).1 aA).toArray∧JX (KB0 H b p) p (Y.ah t st).2 H':=by
 refine Ev.up (t:=λk=>F95 (run G k) k (pv f) (pv p) H) ?_ λk=>YC ..
 obtain⟨i0,i1,i2,H1,H2,H3,H4,h⟩:=Qs hr hf Hr;obtain⟨n0,L1,n1,S1,n2,S2,Lp,jc⟩:=h;obtain⟨A0,A1,A3,A4,_,_⟩:=KH.args jc;have J0: ∀{r2:eE} {s':Y.St} {H':aa} (aR aX bN bU cq cL eX:Value),JX (KH H b p i0 i1 i2 (ax a b' pp qq op) r2) p s' H'→Y.ah t st=(r2,s')→Ev (λk=>nt (run G k) k [pv f,pv p,pv i0,aR,aX,pv i1,pv i2,bN,bU,cq,cL,eX] H') λr=>r.1= .agg (oc (Y.ah t st).1 aA).toArray∧JX (KB0 H b p) p (Y.ah t st).2 r.2:=by
  intro r2 s' H' aR aX bN bU cq cL eX hj e;obtain⟨H7,B1,B2,B3,JA⟩:=KH.fin hj;simp -implicitDefEqProofs only[Pm,CM,B1,B2,B3,sS,Nat.reduceAdd];rw[e];exact Ev.ret ⟨rfl,JA⟩
 simp -implicitDefEqProofs only[F95,n0,L1,n1,S1,JD,n2,S2,Lp,Nat.add_zero,sS,Nat.reduceAdd];rcases hl with⟨rfl,rfl⟩|⟨rfl,ha,rfl⟩|⟨rfl,rfl⟩|⟨rfl,rfl⟩
 ·refine Ev.eql (λ_=>?_) (λhq=>absurd rfl hq)
  simp -implicitDefEqProofs only[A0,A1,A3,A4,Nat.add_zero,sS,Nat.reduceAdd];refine Ev.eY (PT jc a) λz s1 H5 ez hj=>?_
  obtain⟨H6,g6,n9⟩:=KH.word hj z;simp -implicitDefEqProofs only[Nat.add_zero,g6,sS,Nat.reduceAdd];exact J0 _ _ _ _ _ _ _ n9 (by unfold Qt;rw[Y.aI ez];rfl)
 ·refine Ev.eql (λhq=>absurd hq (by decide)) (λ_=>?_)
  try simp -implicitDefEqProofs only[sS,Nat.reduceAdd]
  refine Ev.eql (λ_=>?_) (λhq=>absurd rfl hq)
  simp -implicitDefEqProofs only[A0,A1,A3,A4,Nat.add_zero,sS,Nat.reduceAdd];refine Ev.unX (PU jc ha) λv z s1 H5 ez hj=>?_
  exact J0 _ _ _ _ _ _ _ hj (by unfold Qu;rw[Y.aI ez];rfl)
 ·refine Ev.eql (λhq=>absurd hq (by decide)) (λ_=>?_)
  try simp -implicitDefEqProofs only[sS,Nat.reduceAdd]
  refine Ev.eql (λhq=>absurd hq (by decide)) (λ_=>?_)
  try simp -implicitDefEqProofs only[sS,Nat.reduceAdd]
  refine Ev.eql (λ_=>?_) (λhq=>absurd rfl hq)
  simp -implicitDefEqProofs only[A0,A1,A3,A4,Nat.add_zero,sS,Nat.reduceAdd];refine Ev.eY (G8 jc (f:=FF) (by omega) a) λz s1 H5 ez hj=>?_
  obtain⟨H6,g6,n9⟩:=KH.word hj z;simp -implicitDefEqProofs only[Nat.add_zero,g6,sS,Nat.reduceAdd];exact J0 _ _ _ _ _ _ _ n9 (by unfold Qv;rw[Y.aI ez];rfl)
 ·refine Ev.eql (λhq=>absurd hq (by decide)) (λ_=>?_)
  try simp -implicitDefEqProofs only[sS,Nat.reduceAdd]
  refine Ev.eql (λhq=>absurd hq (by decide)) (λ_=>?_)
  try simp -implicitDefEqProofs only[sS,Nat.reduceAdd]
  refine Ev.eql (λhq=>absurd hq (by decide)) (λ_=>?_)
  try simp -implicitDefEqProofs only[sS,Nat.reduceAdd]
  refine Ev.eql (λ_=>?_) (λhq=>absurd rfl hq)
  simp -implicitDefEqProofs only[A0,A1,A3,A4,Nat.add_zero,sS,Nat.reduceAdd];refine Ev.eY (C4 jc a b' pp qq) λz s1 H5 ez hj=>?_
  obtain⟨H6,g6,n9⟩:=KH.adp hj z;simp -implicitDefEqProofs only[Nat.add_zero,g6,sS,Nat.reduceAdd];exact J0 _ _ _ _ _ _ _ n9 (by unfold nS;rw[Y.aI ez];rfl)
end
end Go.Proofs.YtgfgglponbmgmaaGreat.Fun
end
