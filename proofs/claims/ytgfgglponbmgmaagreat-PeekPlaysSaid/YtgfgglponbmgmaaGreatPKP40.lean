/- Texts of the proof of peekPlays_holds, put together by a small program of ours (names shortened, spaces taken out). No condition beyond the given statement. -/
import Derived.Test.YtgfgglponbmgmaaGreatPKP10
import Derived.Test.YtgfgglponbmgmaaGreatPKP39
import Derived.Test.YtgfgglponbmgmaaGreatPKP9
import Derived.Test.YtgfgglponbmgmaaGreatRows
import Derived.WalkKit
import Derived.ProofKit
import Derived.OpenShut
import Derived.ShutString
import Derived.ChangeOld
import Derived.Below
import Derived.SizedLaws
set_option linter.unusedVariables false
set_option linter.unusedSimpArgs false
set_option linter.unnecessarySimpa false
noncomputable section
section
namespace Go.Proofs.YtgfgglponbmgmaaGreat.Fun
open Go Go.RowKit Go.Proofs.YtgfgglponbmgmaaGreatA.Am
set_option maxRecDepth 10000
section
open Go.Proofs.YtgfgglponbmgmaaGreatA
variable {G:ae} {H H' H0:aa} {b o o':aj} {p c pp mp xp yp fp gp i:Nat} {x:Value} {m m' mP:Y.Mm} {bY fS:Int} {tag:Int} {cs:List Value} {th hZ:jc} {L:List jE} {N M:Nat} {T:List Int} {Ga:Y.Ga} {slot node:Int} {q:List Nat}
theorem Qj {w:Int}(h:w≤524296):pk w=Y.kd w∧pa w=Y.aw w:=by
 unfold pk pa;cases e:P9 w with
 |true=>exact⟨rfl,rfl⟩
 |false=>
  have hr:Y.eX w=false:=by
   simp only[P9,decide_eq_false_iff_not] at e;simp only[Y.eX,Bool.and_eq_false_iff,decide_eq_false_iff_not];exact .inl (.inl (.inl (by omega)))
  simp[Y.kd,Y.aw,hr]
theorem TO (h:Y.bs Ga m)(so:Y.aQ Ga slot node q):pk (m.at slot)=Y.kd (m.at slot)∧pa (m.at slot)=Y.aw (m.at slot):=Qj (h.Uy so).1
theorem De.tg (h:TG Ga th m)(hT: ∀j,j<3→(th j).T.length<1048000)(k:De th m hZ m'): ∃G',TG G' hZ m'∧Ga.le G'∧(m'=m∨∃q,m'=(Y.dT m q).2):=by
 obtain⟨i,js,hi,hR,hP⟩:=k;have h1:=h.begin hi hR;have hT1:(js i).T.length<1048000:=by
  rcases hR with rfl|⟨_,pr,proc,bud,op,_,_,rfl⟩
  ·exact hT i hi
  ·simp[oh]
 obtain⟨G',h',ow,hm⟩:=h1.pick hi hT1 hP;exact⟨G',h',ow.le,hm⟩
theorem Inv.tT (hI:Inv th L N M)(hM:M<1048000): ∀j,j<3→(th j).T.length<1048000:=λj hj=>by have:=hI.tape j hj;omega
def p2 (c:Int):Y.Tr eO:=.ask (.rd c) λz=>.ret (ER z)
def p1 (a:Int):Y.Tr eO:=.ask (.rd (a+4)) λo=>if o=1 then p2 (a+3) else p2 (a+2)
def p0 (s:Int):Y.Tr eO:=.ask (.rd s) λw=>if Y.kd w≠5 then .ret (ER w) else p1 (Y.aw w)
theorem Qk (s:Int):sF s=p0 s:=by
 unfold sF Y.qg p0 p1 p2;simp only[Y.Er,Y.Ep,Y.bind_pure,Y.rd];refine congrArg _ (funext λw=>?_)
 split
 ·rfl
 ·simp only[Y.Er,Y.Ep,Y.bind_pure];refine congrArg _ (funext λo=>?_)
  split<;>rfl
def zH (s:ud):Y.Tr eO:=
 if s.next=0 then p0 s.cell else
 if s.next=1 then p1 s.da else
 if s.next=2 then p2 s.cell else .ret (ER s.word)
def Ao (s:ud):Prop:=Qg s∧(s.next=1→s.cell=s.da+4)
theorem oY {s:ud}(h:Ao s):s.next=0∨s.next=1∨s.next=2∨s.next=3:=by
 obtain⟨⟨h1,h2,_⟩,_⟩:=h;omega
theorem MB {s:ud}(h:Ao s)(m:Y.Mm):Ao (cj s m):=by
 refine⟨Mz h.1 m,?_⟩;rcases oY h with e|e|e|e
 ·by_cases h5:pk (m.at s.cell)≠5
  ·simp[cj,e,h5]
  ·simp[cj,e,h5]
 all_goals simp[cj,e]
theorem TP (a:Int):Y.norm (p1 a)=p1 a:=rfl
theorem TQ {s:ud}(h:Ao s)(h3:s.next≠3)(m:Y.Mm)(hk:s.next=0→pk (m.at s.cell)=Y.kd (m.at s.cell)∧pa (m.at s.cell)=Y.aw (m.at s.cell)): ∃q k,zH s= .ask q k∧m=(Y.dT m q).2∧Y.norm (k (Y.dT m q).1)=zH (cj s m):=by
 rcases oY h with e|e|e|e
 ·obtain⟨k1,k2⟩:=hk e;refine⟨_,_,by simp only[zH,e,p0];rfl,rfl,?_⟩
  by_cases h5:Y.kd (m.at s.cell)≠5
  ·simp[cj,e,k1,h5,zH,Y.dT,Y.norm]
  ·simp[cj,e,k1,k2,h5,zH,Y.dT,TP]
 ·refine⟨_,_,by simp only[zH,e,p1];rfl,rfl,?_⟩
  have ec:=h.2 e;by_cases h1:m.at (s.da+4)=1
  ·simp[cj,e,ec,h1,zH,Y.dT,Y.norm,p2]
  ·simp[cj,e,ec,h1,zH,Y.dT,Y.norm,p2]
 ·refine⟨_,_,by simp only[zH,e,p2];rfl,rfl,?_⟩
  simp[cj,e,zH,Y.dT,Y.norm]
 ·exact absurd e h3
theorem Ql {s:ud}(h:s.next=3):zH s= .ret (ER s.word):=by simp[zH,h]
theorem Qm {s:ud}(h:s.next=3)(m:Y.Mm):cj s m=s:=by unfold cj;rw[if_neg (by omega),if_neg (by omega),if_neg (by omega)]
theorem TR {s:ud}(h:Ao s)(m:Y.Mm)(hk:s.next=0→pk (m.at s.cell)=Y.kd (m.at s.cell)∧pa (m.at s.cell)=Y.aw (m.at s.cell)):(∃a,zH s= .ret a∧zH (cj s m)=zH s∧m=m)∨(∃q k,zH s= .ask q k∧Y.norm (k (Y.dT m q).1)=zH (cj s m)∧m=(Y.dT m q).2):=by
 by_cases e:s.next=3
 ·rw[Qm e];exact .inl ⟨_,Ql e,rfl,rfl⟩
 ·obtain⟨q,k,e1,e2,e3⟩:=TQ h e m hk;exact .inr ⟨q,k,e1,e3,e2⟩
theorem GV {s:ud}{i:Nat}(h:Ao s)(hn:(i:Int)≤s.next∨s.next=3):i+1≤(cj s m).next∨(cj s m).next=3:=by
 rcases oY h with e|e|e|e
 ·by_cases h5:pk (m.at s.cell)≠5
  ·right;simp[cj,e,h5]
  ·left;simp[cj,e,h5];omega
 ·left;simp[cj,e];omega
 ·right;simp[cj,e]
 ·right;simp[cj,e]
theorem Df {t:Y.Tr eO}{s:ud}{d:Bool}{r:eO}{rec:Int}(hi:Ao s)(dG:Fe (.ex t) T d r rec)(mi:Y.after t T=zH s):d=decide (s.next=3)∧(s.next=3→r=ER s.word):=by
 obtain⟨k1,k2⟩:=dG.done mi;by_cases e:s.next=3
 ·rw[decide_eq_true e];exact⟨(k1 _ (Ql e)).1,λ_=>(k1 _ (Ql e)).2⟩
 ·rw[decide_eq_false e];refine⟨?_,λh=>absurd h e⟩
  rcases oY hi with e'|e'|e'|e'
  ·exact k2 _ _ (by simp only[zH,e',p0];rfl)
  ·exact k2 _ _ (by simp only[zH,e',p1];rfl)
  ·exact k2 _ _ (by simp only[zH,e',p2];rfl)
  ·exact absurd e' e
theorem Y4 {s:ud}(h:YR H o yp xp pp mp mP m bY th L)(hf:PF H o fp tag (My s))(ht:jP tag=true)(hi:Qg s):aF (run G) 26 [pv fp,pv pp] H λv H'=>v= .bool (decide ((cj s mP).next=3))∧∃o',Fr H o H' o' [-90, -91,tag]∧YR H' o' yp xp pp mp mP m (cN (decide (s.next=3)) bY) th L∧PF H' o' fp tag (My (cj s mP)):=by
 refine(Qi (pQ.start h hf (vY ht).1) hi).mono ?_;rintro v H' ⟨rfl,hj⟩;obtain⟨o',hm,zL,f⟩:=hj.back;exact⟨rfl,o',f,h.ad1 f ht hm,zL⟩
theorem gy.gd {tf tg:Int}{pr:Pr}{d:Bool}{r:eO}{rec:Int}(h:gy H o gp tf tg pr T d r rec):aq (.pointer (some ⟨gp,23,none⟩)) H=some (.bool d)∧aq (.pointer (some ⟨gp,24,none⟩)) H=some (cv r.word)∧aq (.pointer (some ⟨gp,26,none⟩)) H=some (cv r.num)∧aq (.pointer (some ⟨gp,37,none⟩)) H=some (cv rec):=by
 obtain⟨proc,a,b,p,q,op,tape,s,laid,g,_⟩:=h;exact⟨an gp 23 H g,an gp 24 H g,an gp 26 H g,an gp 37 H g⟩
theorem Qn (a b:Bool):ai Tryz.prog .neq 4 (.bool a) (.bool b)=some (.bool (!(a==b))):=OO a b (by kernel_rfl)
theorem ad4 (t:TypeId)(a:Int):ai Tryz.prog .rem t (cv a) (cv 3)=some (cv (a.tmod 3)):=sh _ a 3 (by decide)
theorem ad5 (a:Int):aE Tryz.prog 41 [(0,cv a)]=some (.agg (ax a 0 0 0 ⟨0,0,0⟩).toArray):=by kernel_rfl
end
end Go.Proofs.YtgfgglponbmgmaaGreat.Fun
end
section
namespace Go.Proofs.YtgfgglponbmgmaaGreat.Fun
open Go Go.RowKit Go.Proofs.YtgfgglponbmgmaaGreatA.Am
set_option maxRecDepth 10000
section
open Go.Proofs.YtgfgglponbmgmaaGreatA
variable {H:aa} {o:aj} {yp xp pp mp fp gp:Nat} {m mP:Y.Mm} {bY:Int} {th:jc} {L:List jE} {slot:Int} {s:ud} {T T':List Int} {d:Bool} {i:Nat}
structure zz (H:aa) (o:aj) (fp gp:Nat) (slot:Int) (s:ud) (T:List Int) (d:Bool):Prop where
 f:PF H o fp (-96) (My s)
 MO:Ao s
 z:s.next=0→s.cell=slot
 fr': ∃r rec,gy H o gp (-301) (-302) (.ex (sF slot)) T d r rec∧Fe (.ex (sF slot)) T d r rec
 rel:Y.after (sF slot) T=zH s
theorem zz.fr {H':aa}{o':aj}{ps:List Int}(h:zz H o fp gp slot s T d)(f:Fr H o H' o' ps)(h1:(-96:Int) ∉ ps)(h2:(-301:Int) ∉ ps)(h3:(-302:Int) ∉ ps)(h4:(-41:Int) ∉ ps):zz H' o' fp gp slot s T d:=by
 obtain⟨r,rec,hg,dG⟩:=h.fr';exact⟨h.f.fr f h1,h.MO,h.z,⟨r,rec,hg.fr f h2 h3 h4,dG⟩,h.rel⟩
theorem Qo {s:ud}(h:Ao s)(m:Y.Mm):(cj s m).next≠0:=by
 rcases oY h with e|e|e|e
 ·by_cases h5:pk (m.at s.cell)≠5<;>simp[cj,e,h5]
 all_goals simp[cj,e]
def PPY (H:aa)(o:aj)(yp xp pp mp:Nat)(slot:Int)(i:Nat)(m:Y.Mm):Prop:=∃bY th L Ga node q,YR H o yp xp pp mp m m bY th L∧Inv th L (211+3*i) (1680+i)∧TG Ga th m∧Y.aQ Ga slot node q
structure PPS (H:aa) (o:aj) (yp xp pp mp fp gp:Nat) (slot:Int) (i:Nat) (sc:Value) (zs:List Int) (m:Y.Mm) (s:ud) (T:List Int) (d:Bool):Prop where
 y':PPY H o yp xp pp mp slot i m
 p:zz H o fp gp slot s T d
 l:T.length≤i
 n:(i:Int)≤s.next∨s.next=3
 sc:du H o (-1) sc zs
def PPW (c da:Int)(lay:Bool)(ky xl sc:Value)(yp gp fp:Nat)(slot:Int)(i:Value)(vs:List Value):Prop:=∃Zv Zw Zx Zy Zz ZA ZB MC:Value,vs=[cv c,ky,xl,cv da,.bool lay,sc,Zv,Zw,pv yp,cv slot,Zx,i,pv gp,Zy,Zz,pv fp,ZA,ZB,MC]
def PPI (c da:Int)(lay:Bool)(ky xl sc:Value)(zs:List Int)(yp xp pp mp gp fp:Nat)(slot:Int)(kk:Nat)(vs:List Value)(Hx:aa):Prop:=∃(i:Nat) (ox:aj) (m:Y.Mm) (s:ud) (T:List Int) (d:Bool),PPW c da lay ky xl sc yp gp fp slot (cv i) vs∧i+kk=40∧PPS Hx ox yp xp pp mp fp gp slot i sc zs m s T d
def PPE (c da:Int)(lay:Bool)(ky xl sc:Value)(yp xp pp mp gp fp:Nat)(slot:Int)(r:bD×List Value×aa):Prop:=r.1= .exit 0∧∃(ox:aj) (m:Y.Mm) (bY:Int) (th:jc) (L:List jE) (w:Value) (s:ud) (T:List Int),PPW c da lay ky xl sc yp gp fp slot w r.2.1∧YR r.2.2 ox yp xp pp mp m m bY th L∧s.next=3∧zz r.2.2 ox fp gp slot s T true
theorem vd {c da:Int}{lay:Bool}{ky xl sc:Value}{zs:List Int}{kk:Nat}{vs:List Value}(h:PPI c da lay ky xl sc zs yp xp pp mp gp fp slot kk vs H):
  Ev (λn=>Nw (run KG n) n vs H) λr=>(r.1= .normal∧∃k',k'<kk∧PPI c da lay ky xl sc zs yp xp pp mp gp fp slot k' r.2.1 r.2.2)∨(r.1≠ .normal∧PPE c da lay ky xl sc yp xp pp mp gp fp slot r):=by
 obtain⟨i,ox,m,s,T,d,⟨Zv,Zw,Zx,Zy,Zz,ZA,ZB,MC,rfl⟩,hik,kq⟩:=h;have J3: ∀{Hz:aa} {oz:aj} {mz:Y.Mm} (Zv Zw Zx Zy Zz ZA ZB MC:Value),PPY Hz oz yp xp pp mp slot (i+1) mz→zz Hz oz fp gp slot s T d→du Hz oz (-1) sc zs→i<40→Ev (λn=>Hn (run KG n) n [cv c,ky,xl,cv da,.bool lay,sc,Zv,Zw,pv yp,cv slot,Zx,cv i,pv gp,Zy,Zz,pv fp,ZA,ZB,MC] Hz) λr=>(r.1= .normal∧∃k',k'<kk∧PPI c da lay ky xl sc zs yp xp pp mp gp fp slot k' r.2.1 r.2.2)∨(r.1≠ .normal∧PPE c da lay ky xl sc yp xp pp mp gp fp slot r):=by
  intro Hz oz mz Zv Zw Zx Zy Zz ZA ZB MC ⟨bY,th,L,Ga,node,q,hy,hI,hG,so⟩ hp Ty hi;have hl:=kq.l;have hk:s.next=0→pk (mz.at s.cell)=Y.kd (mz.at s.cell)∧pa (mz.at s.cell)=Y.aw (mz.at s.cell):=λe=>by rw[hp.z e];exact TO hG.inv so
  obtain⟨b0,b1,b2⟩:=hy.ld;simp -implicitDefEqProofs only[QT,F0,b0,Nat.add_zero,sS,Nat.reduceAdd];refine Ev.call (Y4 hy hp.f (by decide) hp.MO.1) ?_
  rintro v H1 ⟨rfl,o1,f1,UK,hf1⟩;obtain⟨c0,c1,c2⟩:=UK.ld;obtain⟨r,rec,hg,dG⟩:=hp.fr';simp -implicitDefEqProofs only[c1,c2,Nat.add_zero,sS,Nat.reduceAdd];refine Ev.call (TN (m':=mz) UK (hg.fr f1 (by decide) (by decide) (by decide)) dG (by omega) ft1 (by decide) (by decide) hp.rel (TR hp.MO mz hk)) ?_
  rintro v H2 ⟨o2,T2,d2,r2,ad6,rfl,f2,MM,hg2,abY,Vc,aei⟩;have abZ:=MB hp.MO mz;obtain⟨UM,_⟩:=Df abZ abY Vc;subst UM;have Zq:=hf1.fr f2 (by decide)
  have FN:zz H2 o2 fp gp slot (cj s mz) T2 _:=⟨Zq,abZ,λh=>absurd h (Qo hp.MO mz),⟨r2,ad6,hg2,abY⟩,Vc⟩
  obtain⟨gd2,_⟩:=hg2.gd;simp -implicitDefEqProofs only[Qn,beq_self_eq_true,Bool.not_true,sS,Nat.reduceAdd];refine Ev.is (E7 (pQ.start MM Zq (by decide))) ?_
  simp -implicitDefEqProofs only[Qn,gd2,beq_self_eq_true,Bool.not_true,Nu,Nat.zero_add,sS,Nat.reduceAdd];have hw:IntKind.i64.wrap ((i:Int)+1)=((i+1:Nat):Int):=by rw[fZ (by omega)];rfl
  simp -implicitDefEqProofs only[QS,FZ,hw,sS,Nat.reduceAdd];exact Ev.ret (.inl ⟨rfl,39-i,by omega,i+1,o2,mz,_,T2,_,⟨_,_,_,_,_,_,_,_,rfl⟩,by omega,⟨_,th,L,Ga,node,q,MM,hI,hG,so⟩,FN,by omega,by have:=GV (m:=mz) hp.MO kq.n;push_cast;exact this,(Ty.fr f1 (by decide)).fr f2 (by decide)⟩)
 obtain⟨bY,th,L,Ga,node,q,hy,hI,hG,so⟩:=kq.y';have hp:=kq.p;have hl:=kq.l;have Ty:=kq.sc;obtain⟨r,rec,hg,dG⟩:=id hp.fr';obtain⟨gd,_⟩:=hg.gd;obtain⟨hd,_⟩:=Df hp.MO dG hp.rel;have tU:=Ty.1.len;have ub:Inv th L (211+3*(i+1)) (1680+(i+1)):=⟨by have:=hI.len;omega,hI.lists,λj hj=>by have:=hI.tape j hj;omega⟩
 simp -implicitDefEqProofs only[QU,F1,sS,Nat.reduceAdd];refine Ev.lss (λhi=>?_) (λhi=>?_)
 ·have qv:i<40:=by omega
  cases d
  ·simp -implicitDefEqProofs only[gd,tU,Nat.zero_add,sS,Nat.reduceAdd];refine Ev.lss (λh1=>?_) (λh1=>?_)
   ·obtain⟨q',off,b,e1,e2,e3⟩:=Ty.1.idx (j:=i) (by omega)
    have e4:aq (.pointer (some ⟨q',off,none⟩)) H=some (cv (zs.getD i 0)):=(an q' off H e2).trans e3;simp -implicitDefEqProofs only[e1,e4,ad4,sS,Nat.reduceAdd];refine Ev.eql (λh3=>?_) (λh3=>?_)<;>try simp -implicitDefEqProofs only[e1,e4,PU,sS,Nat.reduceAdd]
    ·refine Ev.call (TJ hy hI (by omega) (by omega) _) ?_
     rintro v H1 ⟨o1,m1,ad7,js,L1,f1,UK,ub,hR⟩;obtain⟨G1,hG1,hle,_⟩:=hR.tg hG (hI.tT (by omega))
     try simp -implicitDefEqProofs only[sS,Nat.reduceAdd]
     exact J3 _ _ _ _ _ _ _ _ ⟨ad7,js,L1,G1,node,q,UK,⟨by have:=ub.len;omega,ub.lists,λj hj=>by have:=ub.tape j hj;omega⟩,hG1,so.mono hle⟩ (hp.fr f1 (by decide) (by decide) (by decide) (by decide)) (Ty.fr f1 (by decide)) qv
    ·exact J3 _ _ _ _ _ _ _ _ ⟨bY,th,L,Ga,node,q,hy,ub,hG,so⟩ hp Ty qv
   ·try simp -implicitDefEqProofs only[sS,Nat.reduceAdd]
    exact J3 _ _ _ _ _ _ _ _ ⟨bY,th,L,Ga,node,q,hy,ub,hG,so⟩ hp Ty qv
  ·simp -implicitDefEqProofs only[gd,Nat.zero_add,sS,Nat.reduceAdd];exact Ev.ret (.inr ⟨by simp,rfl,ox,m,bY,th,L,_,s,T,⟨_,_,_,_,_,_,_,_,rfl⟩,hy,of_decide_eq_true hd.symm,hp⟩)
 ·have h6:s.next=3:=by
   rcases kq.n with h|h
   ·have:=hp.MO.1.2.1;omega
   ·exact h
  rw[decide_eq_true h6] at hd;subst hd
  try simp -implicitDefEqProofs only[sS,Nat.reduceAdd]
  exact Ev.ret (.inr ⟨by simp,rfl,ox,m,bY,th,L,_,s,T,⟨_,_,_,_,_,_,_,_,rfl⟩,hy,h6,hp⟩)
theorem Ap (c da:Int)(lay:Bool){ky xl sc:Value}{ks zl zs:List Int}(hky:sI H ky ks)(hkr:du H o0 (-1) ky ks)(hl:du H o0 (-1) xl zl)(UY:zl.length≤maxLen)(hs:du H o0 (-1) sc zs):aF (run KG) 4 [cv c,ky,xl,cv da,.bool lay,sc] H λv H'=>v= .bool true:=by
 refine Ev.up (t:=λn=>F4 (run KG n) n (cv c) ky xl (cv da) (.bool lay) sc H) ?_ λn=>aau ..
 simp -implicitDefEqProofs only[F4,sS,Nat.reduceAdd];refine Ev.call (YY c hky hkr hl UY) ?_;rintro v H1 ⟨yp,xp,pp,mp,o1,m,bY,th,L,rfl,f1,hy,hI,hT⟩;have Ha:=hs.fr f1 (by simp)
 have J0: ∀{H2:aa} {o2:aj} {m:Y.Mm} {bY:Int} {th:jc} {L:List jE} (aN bM aM dQ bf aU gH n8 aW aV bt D2:Value),YR H2 o2 yp xp pp mp m m bY th L→Inv th L 211 1680→TI th m→du H2 o2 (-1) sc zs→Ev (λn=>Hp (run KG n) n [cv c,ky,xl,cv da,.bool lay,sc,aN,bM,pv yp,aM,dQ,bf,aU,gH,n8,aW,aV,bt,D2] H2) λr=>r.1= .bool true:=by
  intro H2 o2 m bY th L aN bM aM dQ bf aU gH n8 aW aV bt D2 hy hI hT QH;obtain⟨Ga,hG⟩:=hT;obtain⟨a0,a1,a2⟩:=hy.ld;simp -implicitDefEqProofs only[QX,F8,a1,a2,sS,Nat.reduceAdd];refine Ev.call (Qf hy.An.look hG.inv hG.root o2 da) ?_;rintro v H3 ⟨o3,node,slot,q,f3,rfl,so,hz⟩;have ad8: ∀H,aak 1 (.agg #[cv node,cv slot]) H=some (cv slot,H):=λ_=>rfl
  simp -implicitDefEqProofs only[ad8,sS,Nat.reduceAdd];refine Ev.call (TM slot) ?_;rintro v H4 ⟨rfl,e4⟩;have f4:Fr H3 o3 H4 (o3.up H3.length (-96)) []:=by rw[e4];exact(Fr.refl _ _ _).new _ _
  have UX:PF H4 (o3.up H3.length (-96)) H3.length (-96) (My ⟨0,slot,0,0⟩):=by rw[e4];exact PF.new _
  have hy4:=(hy.fr f3 (by simp)).fr f4 (by simp)
  have Yy:=(QH.fr f3 (by simp)).fr f4 (by simp)
  generalize o3.up H3.length (-96)=o4 at f4 UX hy4 Yy
  obtain⟨fp,efp⟩: ∃fp,fp=H3.length:=⟨_,rfl⟩;rw[←efp] at UX ⊢;have hPr:zp (.ex (sF slot)) 11 slot 0 0 0 ⟨0,0,0⟩:=.inr (.inl ⟨rfl,rfl⟩);simp -implicitDefEqProofs only[ad5,sS,Nat.reduceAdd];refine Ev.call (PK ft1 hPr H4 o4) ?_;rintro v H5 ⟨gp,o5,d5,r5,ad9,rfl,f5,hg5,ok5⟩;have hy5:=hy4.fr f5 (by simp)
  try simp -implicitDefEqProofs only[sS,Nat.reduceAdd]
  refine Ev.is (ad0 25 (by decide) H5) ?_
  try simp -implicitDefEqProofs only[sS,Nat.reduceAdd]
  refine Ev.call (Qe hy5) ?_;rintro v H6 ⟨rfl,o6,f6,hy6⟩
  try simp -implicitDefEqProofs only[sS,Nat.reduceAdd]
  have aea:Ao ⟨0,slot,0,0⟩:=⟨⟨by simp,by simp,λh=>by simp at h⟩,λh=>by simp at h⟩
  have hI0:Inv th L (211+3*0) (1680+0):=hI;have LU:PPS H6 o6 yp xp pp mp fp gp slot 0 sc zs m ⟨0,slot,0,0⟩ [] d5:=⟨⟨_,th,L,Ga,node,q,hy6,hI0,hG,so⟩,⟨(UX.fr f5 (by simp)).fr f6 (by simp),aea,λ_=>rfl,⟨r5,ad9,hg5.fr f6 (by simp) (by simp) (by simp),ok5⟩,by rw[Qk];rfl⟩,by simp,.inl (by simp),(Yy.fr f5 (by simp)).fr f6 (by simp)⟩
  refine Ev.loop (k:=40) (PPI c da lay ky xl sc zs yp xp pp mp gp fp slot) (PPE c da lay ky xl sc yp xp pp mp gp fp slot) ⟨0,o6,m,_,[],d5,⟨_,_,_,_,_,_,_,_,rfl⟩,rfl,LU⟩ (λkk vs Hx hx=>vd hx) ?_
  rintro ex vs Hx ⟨he',oz,mz,cz,thz,Lz,wz,s,T,⟨Zv,Zw,Zx,Zy,Zz,ZA,ZB,MC,rfl⟩,hyz,h6,hp⟩;simp only at he' hyz hp;subst he';obtain⟨r,rec,hg,dG⟩:=hp.fr';obtain⟨gd,gw,_⟩:=hg.gd;obtain⟨_,hr⟩:=Df hp.MO dG hp.rel;have er:=hr h6;subst er;simp -implicitDefEqProofs only[QW,F3,gd,gw,Nat.zero_add,sS,Nat.reduceAdd];refine Ev.is (Qh (pQ.start hyz hp.f (by decide))) ?_
  simp -implicitDefEqProofs only[gd,gw,sg,decide_true,kE,Nat.zero_add,Nat.add_zero,sS,Nat.reduceAdd];refine Ev.call (Qe hyz) ?_;rintro v H10 ⟨rfl,_⟩
  try simp -implicitDefEqProofs only[gw,kE,sS,Nat.reduceAdd]
  exact Ev.ret rfl
 try simp -implicitDefEqProofs only[sS,Nat.reduceAdd]
 cases lay<;>simp -implicitDefEqProofs only[ad3,sS,Nat.reduceAdd]
 ·exact J0 _ _ _ _ _ _ _ _ _ _ _ _ hy hI hT Ha
 ·simp -implicitDefEqProofs only[sg,sS,Nat.reduceAdd];obtain⟨Ga,hG⟩:=hT;refine Ev.call (abU hy hG.inv hG.root da _) ?_;rintro v H2 ⟨o2,node,slot,q,aeD,f2,so,hz,rfl,MM⟩;obtain⟨G2,hG2,_⟩:=MA hG so hz (decide (da.tmod 2=0))
  try simp -implicitDefEqProofs only[sS,Nat.reduceAdd]
  exact J0 _ _ _ _ _ _ _ _ _ _ _ _ MM hI ⟨G2,hG2⟩ (Ha.fr f2 (by simp))
end
end Go.Proofs.YtgfgglponbmgmaaGreat.Fun
namespace Go.Proofs.YtgfgglponbmgmaaGreat.Pure
open Go.RowKit Go.Proofs.YtgfgglponbmgmaaGreatA.Am Fun
set_option maxRecDepth 10000
theorem Aq:Un Tryz.prog 4 [3,22,22,3,4,22]:=Yb λH args hr hi=>by
 obtain⟨v0,_,rfl,h0,v1,_,rfl,h1,v2,_,rfl,h2,v3,_,rfl,h3,v4,_,rfl,h4,v5,_,rfl,h5,rfl⟩:=hi;obtain⟨c,rfl,_⟩:=h0.int uI;obtain⟨da,rfl,_⟩:=h3.int uI;obtain⟨lay,rfl⟩:=h4.bool (show Tryz.prog.underlying 4=some .bool from by kernel_rfl)
 obtain⟨ks,DB,hk2,_⟩:=lW.abX (show Tryz.prog.underlying 22=some (.slice 3) from by kernel_rfl) uI (by kernel_rfl) h1
 obtain⟨zl,Y9,_,QQ⟩:=h2.ints (show Tryz.prog.underlying 22=some (.slice 3) from by kernel_rfl) uI (by kernel_rfl)
 obtain⟨zs,Ha,_,_⟩:=h5.ints (show Tryz.prog.underlying 22=some (.slice 3) from by kernel_rfl) uI (by kernel_rfl)
 obtain⟨N,⟨v,H1⟩,e1,e2⟩:=Ap c da lay DB hk2 Y9 QQ Ha;have e3:=e1 N (Nat.le_refl _);simp only at e2 e3;exact⟨N,H1,by rw[e3,e2]⟩
end Go.Proofs.YtgfgglponbmgmaaGreat.Pure
end
section
namespace Go.Proofs.YtgfgglponbmgmaaGreat.Bv
open Go.ChangeShapes Go.WideShapes Go.ChangeAt Go.RowKit Go.Proofs.YtgfgglponbmgmaaGreatA.Am
theorem own:ownKnob Tryz.prog.godebug=none:=by kernel_rfl
set_option maxRecDepth 100000 in
theorem lifted (os:Os)(started:os.Started)(H:Type)(enc:TypeId×Value→H):
  ReturnsInHanded {} Tryz.checked os 4 .any (Rows.peekPlaysSpec.pre6 enc Tryz.prog Tryz.f4 Rows.peekPlaysRow.domain false) (Rows.peekPlaysSpec.post enc Tryz.prog Tryz.f4 false true false false):=by
 refine returnsInHanded_of_change_sized (C:=Tryz.checked) own started (by kernel_rfl) Tryz.func4
  (ChangeSpec.witness6 (enc:=enc) (C:=Tryz.checked) false ⟨#[],#[.int .i64 0,.slice none 0 0,.slice none 0 0,.int .i64 0,.bool false,.slice none 0 0],[]⟩ 8 (by kernel_rfl) (by kernel_rfl) (by kernel_rfl) (by kernel_rfl)) ?_
 intro W base args ds gs before Vd hW aeE Ft _;have oH: ∀(j:Nat) t v,Tryz.f4.params[j]? =some t→args[j]? =some v→Value.okWide Tryz.prog W .any base t v:=Vd;have hW':=hW;obtain⟨p,q,hA0,hV,rfl,hfz,hnd⟩:=hW;have hA:DataW.TrodAll enc Tryz.prog W 0 (λ_=>true) true Tryz.f4.params.toList args.toList ds p:=hA0
 rw[Tryz.params4] at hA oH;obtain⟨rfl,rfl⟩:=trodVars_none hV;have gG: ∀x∈p,x.block<W.heap.size:=λx hx=>by simpa using hW'.lt x (by simpa using hx)
 have hw:=Un.walk Pure.Aq (by kernel_rfl) (vs:=args.toList) (λj t v e1 e2=>oH j t v (by simpa using e1) (by simpa using e2)) hA
 have hA2:=hA;obtain⟨_,vs0,d0,ds0,p0,q0,_,rfl,_,_,r0⟩:=trodAll_cons hA2;obtain⟨_,FC,d1,ds1,p1,q1,rfl,rfl,rfl,_,r1⟩:=trodAll_cons r0;obtain⟨_,Vs,d2,ds2,p2,q2,rfl,rfl,rfl,_,r2⟩:=trodAll_cons r1;obtain⟨_,vs3,d3,ds3,p3,q3,rfl,rfl,rfl,_,r3⟩:=trodAll_cons r2;obtain⟨_,vs4,d4,ds4,p4,q4,rfl,rfl,rfl,_,r4⟩:=trodAll_cons r3;obtain⟨_,vs5,d5,ds5,p5,q5,rfl,rfl,rfl,_,r5⟩:=trodAll_cons r4;obtain⟨_,rfl,_⟩:=trodAll_nil r5;clear hA0 Vd Ft;rw[Array.toArray_toList] at hw;refine hw.mono λe W' ⟨he,bel⟩=>?_
 subst he;exact⟨_,rfl,_,_,_,[],_,[],hW',trodAll_mk1 (shut_bool Tryz.underlying4 _),LI (by kernel_rfl) _ _ _ _ (by kernel_rfl) hA bel gG,rfl,bel.frame _,λh=>by cases h⟩
theorem aeb:Rows.peekPlaysRow.holds Tryz.pinned (OpenSpec.ofChange Rows.peekPlaysSpec):=
 OpenClaim.holds_of_wide 4 Tryz.f4 rfl rfl rfl rfl rfl rfl rfl ⟨rfl,rfl,rfl,rfl,rfl⟩ rfl rfl rfl rfl rfl (by kernel_rfl) Tryz.func4 (by kernel_rfl)
  (of_decide_eq_true (by kernel_rfl)) (by unfold Func.isWrapper;first| (rw[if_pos (by decide +kernel)];kernel_rfl)| (rw[if_neg (by decide +kernel)];exact⟨rfl,rfl⟩))
  (λos started H enc _=>lifted os started H enc)
theorem proved:Rows.PeekPlaysSaid:=aeb
end Go.Proofs.YtgfgglponbmgmaaGreat.Bv
namespace Go.Proofs.YtgfgglponbmgmaaGreat
theorem peekPlays_holds:Rows.PeekPlaysSaid:=Bv.proved
end Go.Proofs.YtgfgglponbmgmaaGreat
end
