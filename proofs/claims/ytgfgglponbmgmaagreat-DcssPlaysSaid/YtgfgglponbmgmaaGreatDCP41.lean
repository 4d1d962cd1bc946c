/- Texts of the proof of dcssPlays_holds, put together by a small program of ours (names shortened, spaces taken out). No condition beyond the given statement. -/
import Derived.Test.YtgfgglponbmgmaaGreatDCP9
import Derived.Test.YtgfgglponbmgmaaGreatDCP40
import Derived.Test.YtgfgglponbmgmaaGreatRows
import Derived.WalkKit
import Derived.ProofKit
import Derived.OpenShut
import Derived.ShutString
import Derived.ChangeOld
import Derived.Below
import Derived.SizedLaws
set_option linter.unusedVariables false
set_option linter.unusedSimpArgs false
set_option linter.unnecessarySimpa false
noncomputable section
section
namespace Go.Proofs.YtgfgglponbmgmaaGreat.Fun
open Go Go.RowKit Go.Proofs.YtgfgglponbmgmaaGreatA.Am
set_option maxRecDepth 10000
section
open Go.Proofs.YtgfgglponbmgmaaGreatA
variable {H:aa} {o:aj} {yp xp pp mp fp gp:Nat} {m mP:Y.Mm} {cl:Int} {th:jy} {L:List jV} {g p x y:Int} {s:zR} {T T':List Int} {d:Bool} {i:Nat}
structure zJ (H:aa) (o:aj) (fp gp:Nat) (g p x y:Int) (s:zR) (T:List Int) (d:Bool):Prop where
 f:PF H o fp (-98) (Fq s)
 Ns:vj s
 par:s.guard=g∧s.place=p∧s.old=x∧s.Av=y
 fr': ∃r,gy H o gp (-301) (-302) (.ex (nS g p x y)) T d r s.gG∧FB (.ex (nS g p x y)) T d r s.gG
 rel:Y.after (nS g p x y) T=sT s
 z:s.next=0→T=[]
 nz:s.next≠0→T≠[]
theorem Du {r:eE}{rec:Int}(hi:vj s)(dH:FB (.ex (nS g p x y)) T d r rec)(mq:Y.after (nS g p x y) T=sT s):d=decide (s.next=6)∧(s.next=6→r=Dk s.out):=by
 obtain⟨k1,k2⟩:=dH.done mq;by_cases e:s.next=6
 ·rw[decide_eq_true e];exact⟨(k1 _ (Q5 e)).1,λ_=>(k1 _ (Q5 e)).2⟩
 ·rw[decide_eq_false e];obtain⟨q,k,e1,_⟩:=Dt hi e ⟨[],0⟩;exact⟨k2 q k e1,λh=>absurd h e⟩
theorem UF {s:zR}(h:vj s)(m:Y.Mm):(∃a,sT s= .ret a∧sT (bh s m).1=sT s∧(bh s m).2=m)∨(∃q k,sT s= .ask q k∧Y.norm (k (Y.dC m q).1)=sT (bh s m).1∧(bh s m).2=(Y.dC m q).2):=by
 by_cases e:s.next=6
 ·have es:=(uj h m).2.2.2.2.2.2.2 e;rw[es];exact .inl ⟨_,Q5 e,rfl,rfl⟩
 ·obtain⟨q,k,e1,e2,e3⟩:=Dt h e m;exact .inr ⟨q,k,e1,e3,e2⟩
theorem UG (hi:vj s)(hz:s.next=0→T=[])(hn:s.next≠0→T≠[])(hr:s.gG=qh T)(hT:(∃a,sT s= .ret a∧T'=T)∨∃q k,sT s= .ask q k∧T'=T++[(Y.dC m q).1]):T'≠[]∧(bh s m).1.gG=qh T':=by
 obtain⟨_,_,_,_,_,hk,_,h6⟩:=uj hi m;rcases hT with⟨a,e1,rfl⟩|⟨q,k,e1,rfl⟩
 ·by_cases e:s.next=6
  ·rw[h6 e];exact⟨hn (by omega),hr⟩
  ·obtain⟨q,k,e2,_⟩:=Dt hi e m;rw[e1] at e2;cases e2
 ·refine⟨by simp,?_⟩
  by_cases e:s.next=0
  ·have ez:=hz e;subst ez;simp only[sT,e,d0] at e1;cases e1;obtain⟨r,er⟩: ∃r,r=Y.dC m (.mk (Y.hU s.guard s.place s.old s.Av)):=⟨_,rfl⟩;have h0:0≤r.1:=by
    rw[er];simp only[Y.dC];split<;>simp<;>omega
   simp only[bh,e, ←er,List.nil_append,qh];by_cases h1:r.1>0
   ·simp[h1]
   ·simp[h1];omega
  ·rw[Nd (hn e),hk e,hr]
theorem zJ.fr {H':aa}{o':aj}{ps:List Int}(h:zJ H o fp gp g p x y s T d)(f:Fr H o H' o' ps)(h1:(-98:Int) ∉ ps)(h2:(-301:Int) ∉ ps)(h3:(-302:Int) ∉ ps)(h4:(-41:Int) ∉ ps):zJ H' o' fp gp g p x y s T d:=by
 obtain⟨r,hg,dH⟩:=h.fr';exact⟨h.f.fr f h1,h.Ns,h.par,⟨r,hg.fr f h2 h3 h4,dH⟩,h.rel,h.z,h.nz⟩
theorem gy.gd {tf tg:Int}{pr:Pr}{r:eE}{rec:Int}(h:gy H o gp tf tg pr T d r rec):aq (.pointer (some ⟨gp,23,none⟩)) H=some (.bool d)∧aq (.pointer (some ⟨gp,24,none⟩)) H=some (cv r.word)∧aq (.pointer (some ⟨gp,26,none⟩)) H=some (cv r.num)∧aq (.pointer (some ⟨gp,37,none⟩)) H=some (cv rec):=by
 obtain⟨proc,a,b,p,q,op,tape,s,laid,g,_⟩:=h;exact⟨an gp 23 H g,an gp 24 H g,an gp 26 H g,an gp 37 H g⟩
theorem adS (g p x y:Int):aE Tryz.prog 41 [(0,cv g),(1,cv p),(3,cv x),(4,cv y)]=some (.agg (ax g p x y ⟨0,0,0⟩).toArray):=by kernel_rfl
theorem HD (a b:Bool):ai Tryz.prog .neq 4 (.bool a) (.bool b)=some (.bool (!(a==b))):=PH a b (by kernel_rfl)
theorem adT (t:TypeId)(a:Int):ai Tryz.prog .rem t (cv a) (cv 3)=some (cv (a.tmod 3)):=vX _ a 3 (by decide)
structure DPS (H:aa) (o:aj) (yp xp pp mp fp gp:Nat) (g p x y:Int) (i:Nat) (sc:Value) (zs:List Int) (m:Y.Mm) (s:zR) (T:List Int) (d:Bool):Prop where
 y': ∃cl th L,YR H o yp xp pp mp m m cl th L∧Inv th L (211+3*i) (1680+i)
 p:zJ H o fp gp g p x y s T d
 l:T.length≤i
 n:(i:Int)≤s.next∨s.next=6
 sc:dy H o (-1) sc zs
def DPW (c eu:Int)(jx:Bool)(ky xl sc:Value)(yp gp fp bx:Nat)(x:Int)(i:Value)(vs:List Value):Prop:=∃w12 w49 UH w74 w17 w76 w16 w18 Nf Ng w22 w23 Nh:Value,vs=[cv c,ky,xl,cv eu,.bool jx,sc,w12,pv yp,pv bx,cv x,w49,UH,w74,w17,w76,w16,w18,i,pv gp,Nf,Ng,pv fp,w22,w23,Nh]
def DPI (c eu:Int)(jx:Bool)(ky xl sc:Value)(zs:List Int)(yp xp pp mp gp fp bx:Nat)(g p x y:Int)(kk:Nat)(vs:List Value)(Hx:aa):Prop:=∃(i:Nat) (ox:aj) (m:Y.Mm) (s:zR) (T:List Int) (d:Bool),DPW c eu jx ky xl sc yp gp fp bx x (cv i) vs∧i+kk=40∧DPS Hx ox yp xp pp mp fp gp g p x y i sc zs m s T d
def DPE (c eu:Int)(jx:Bool)(ky xl sc:Value)(yp xp pp mp gp fp bx:Nat)(g p x y:Int)(r:bG×List Value×aa):Prop:=r.1= .exit 0∧∃(ox:aj) (m:Y.Mm) (cl:Int) (th:jy) (L:List jV) (w:Value) (s:zR) (T:List Int),DPW c eu jx ky xl sc yp gp fp bx x w r.2.1∧YR r.2.2 ox yp xp pp mp m m cl th L∧s.next=6∧zJ r.2.2 ox fp gp g p x y s T true
theorem HE (hi:vj s)(h:(i:Int)≤s.next∨s.next=6):i+1≤(bh s m).1.next∨(bh s m).1.next=6:=by
 rcases sN hi with e|e|e|e|e|e|e
 ·by_cases ha:(Y.dC m (.mk (Y.hU s.guard s.place s.old s.Av))).1>0
  ·left;simp[bh,e,ha];omega
  ·right;simp[bh,e,ha]
 ·by_cases ha:(Y.dC m (.cs s.place s.old (Y.fP 5 s.gG))).1=1
  ·left;simp[bh,e,ha];omega
  ·right;simp[bh,e,ha]
 ·left;simp[bh,e];omega
 ·left;simp[bh,e];omega
 ·left;simp[bh,e];omega
 ·right
  by_cases ha:s.settle=1<;>simp[bh,e,ha]
 ·right;simp[bh,e]
theorem vk {c eu:Int}{jx:Bool}{ky xl sc:Value}{zs:List Int}{bx:Nat}{kk:Nat}{vs:List Value}(h:DPI c eu jx ky xl sc zs yp xp pp mp gp fp bx g p x y kk vs H):
  Ev (λn=>Ot (run KG n) n vs H) λr=>(r.1= .normal∧∃k',k'<kk∧DPI c eu jx ky xl sc zs yp xp pp mp gp fp bx g p x y k' r.2.1 r.2.2)∨(r.1≠ .normal∧DPE c eu jx ky xl sc yp xp pp mp gp fp bx g p x y r):=by
 obtain⟨i,ox,m,s,T,d,⟨w12,w49,UH,w74,w17,w76,w16,w18,Nf,Ng,w22,w23,Nh,rfl⟩,hik,kx⟩:=h;have J3: ∀{Hz:aa} {oz:aj} {mz:Y.Mm} (w12 w49 UH w74 w17 w76 w16 w18 Nf Ng w22 w23 Nh:Value),(∃cl th L,YR Hz oz yp xp pp mp mz mz cl th L∧Inv th L (211+3*(i+1)) (1680+(i+1)))→zJ Hz oz fp gp g p x y s T d→dy Hz oz (-1) sc zs→i<40→Ev (λn=>HY (run KG n) n [cv c,ky,xl,cv eu,.bool jx,sc,w12,pv yp,pv bx,cv x,w49,UH,w74,w17,w76,w16,w18,cv i,pv gp,Nf,Ng,pv fp,w22,w23,Nh] Hz) λr=>(r.1= .normal∧∃k',k'<kk∧DPI c eu jx ky xl sc zs yp xp pp mp gp fp bx g p x y k' r.2.1 r.2.2)∨(r.1≠ .normal∧DPE c eu jx ky xl sc yp xp pp mp gp fp bx g p x y r):=by
  intro Hz oz mz w12 w49 UH w74 w17 w76 w16 w18 Nf Ng w22 w23 Nh ⟨cl,th,L,hy,hI⟩ hp Un hi;have hl:=kx.l;obtain⟨b0,b1,b2⟩:=hy.ld;simp -implicitDefEqProofs only[RE,Gn,b0,Nat.add_zero,sS,Nat.reduceAdd];refine Ev.call (aaa hy hp.f (by decide) hp.Ns) ?_
  rintro v H1 ⟨rfl,o1,UI,f1,VG,hf1⟩;obtain⟨c0,c1,c2⟩:=VG.ld;obtain⟨r,hg,dH⟩:=hp.fr';simp -implicitDefEqProofs only[c1,c2,Nat.add_zero,sS,Nat.reduceAdd];refine Ev.call (UE VG (hg.fr f1 (by decide) (by decide) (by decide)) dH (by omega) ft1 (by decide) (by decide) hp.rel (UF hp.Ns mz)) ?_
  rintro v H2 ⟨o2,T2,d2,r2,adU,rfl,f2,Qa,hg2,aab,V7,ad6,hT2⟩;obtain⟨acr,q1,q2,q3,q4,_,q6,_⟩:=uj hp.Ns mz;obtain⟨VJ,_⟩:=Du acr aab V7;subst VJ;have hr0:s.gG=qh T:=dH.2.1.trans (uk ..);obtain⟨dx,rI⟩:=UG (m:=mz) hp.Ns hp.z hp.nz hr0 hT2;have adV:adU=(bh s mz).1.gG:=(aab.2.1.trans (uk ..)).trans rI.symm;subst adV;have ZG:=hf1.fr f2 (by decide)
  obtain⟨p1,p2,p3,p4⟩:=hp.par;have Gd:zJ H2 o2 fp gp g p x y (bh s mz).1 T2 _:=⟨ZG,acr,⟨q1.trans p1,q2.trans p2,q3.trans p3,q4.trans p4⟩,⟨r2,hg2,aab⟩,V7,λh=>absurd h q6,λ_=>dx⟩
  obtain⟨gd2,_,_,gr2⟩:=hg2.gd;simp -implicitDefEqProofs only[HD,beq_self_eq_true,Bool.not_true,sS,Nat.reduceAdd];refine Ev.is (Ft (mD.start Qa ZG (by decide))) ?_
  simp -implicitDefEqProofs only[HD,gd2,beq_self_eq_true,Bool.not_true,Ed,Nat.zero_add,sS,Nat.reduceAdd];refine Ev.is (UB (mD.start Qa ZG (by decide))) ?_
  simp -implicitDefEqProofs only[HD,gd2,gr2,CS,decide_true,beq_self_eq_true,Bool.not_true,Ed,lS,Nat.zero_add,sS,Nat.reduceAdd];have hw:IntKind.i64.wrap ((i:Int)+1)=((i+1:Nat):Int):=by rw[gz (by omega)];rfl
  simp -implicitDefEqProofs only[RC,Gm,hw,sS,Nat.reduceAdd];exact Ev.ret (.inl ⟨rfl,39-i,by omega,i+1,o2,_,_,T2,_,⟨_,_,_,_,_,_,_,_,_,_,_,_,_,rfl⟩,by omega,⟨_,th,L,Qa,hI⟩,Gd,by omega,by have:=HE (m:=mz) hp.Ns kx.n;push_cast;exact this,(Un.fr f1 (by decide)).fr f2 (by decide)⟩)
 obtain⟨cl,th,L,hy,hI⟩:=kx.y';have hp:=kx.p;have hl:=kx.l;have Un:=kx.sc;obtain⟨r,hg,dH⟩:=id hp.fr';obtain⟨gd,_⟩:=hg.gd;obtain⟨hd,_⟩:=Du hp.Ns dH hp.rel;have uG:=Un.1.len;have uh:Inv th L (211+3*(i+1)) (1680+(i+1)):=⟨by have:=hI.len;omega,hI.lists,λj hj=>by have:=hI.tape j hj;omega⟩
 simp -implicitDefEqProofs only[RG,Gz,sS,Nat.reduceAdd];refine Ev.lss (λhi=>?_) (λhi=>?_)
 ·have qt:i<40:=by omega
  cases d
  ·simp -implicitDefEqProofs only[gd,uG,Nat.zero_add,sS,Nat.reduceAdd];refine Ev.lss (λh1=>?_) (λh1=>?_)
   ·obtain⟨q,off,b,e1,e2,e3⟩:=Un.1.idx (j:=i) (by omega)
    have e4:aq (.pointer (some ⟨q,off,none⟩)) H=some (cv (zs.getD i 0)):=(an q off H e2).trans e3;simp -implicitDefEqProofs only[e1,e4,adT,sS,Nat.reduceAdd];refine Ev.eql (λh3=>?_) (λh3=>?_)<;>try simp -implicitDefEqProofs only[e1,e4,QJ,sS,Nat.reduceAdd]
    ·refine Ev.call (Ux hy hI (by omega) (by omega) _) ?_
     rintro v H1 ⟨o1,m1,UI,jI,L1,f1,VG,uh,_⟩
     try simp -implicitDefEqProofs only[sS,Nat.reduceAdd]
     exact J3 _ _ _ _ _ _ _ _ _ _ _ _ _ ⟨UI,jI,L1,VG,by have:=uh.len;omega,uh.lists,λj hj=>by have:=uh.tape j hj;omega⟩ (hp.fr f1 (by decide) (by decide) (by decide) (by decide)) (Un.fr f1 (by decide)) qt
    ·exact J3 _ _ _ _ _ _ _ _ _ _ _ _ _ ⟨cl,th,L,hy,uh⟩ hp Un qt
   ·try simp -implicitDefEqProofs only[sS,Nat.reduceAdd]
    exact J3 _ _ _ _ _ _ _ _ _ _ _ _ _ ⟨cl,th,L,hy,uh⟩ hp Un qt
  ·simp -implicitDefEqProofs only[gd,Nat.zero_add,sS,Nat.reduceAdd];exact Ev.ret (.inr ⟨by simp,rfl,ox,m,cl,th,L,_,s,T,⟨_,_,_,_,_,_,_,_,_,_,_,_,_,rfl⟩,hy,of_decide_eq_true hd.symm,hp⟩)
 ·have h6:s.next=6:=by
   rcases kx.n with h|h
   ·have:=hp.Ns.2;omega
   ·exact h
  rw[decide_eq_true h6] at hd;subst hd
  try simp -implicitDefEqProofs only[sS,Nat.reduceAdd]
  exact Ev.ret (.inr ⟨by simp,rfl,ox,m,cl,th,L,_,s,T,⟨_,_,_,_,_,_,_,_,_,_,_,_,_,rfl⟩,hy,h6,hp⟩)
theorem Aw (c eu:Int)(jx:Bool){ky xl sc:Value}{ks zl zs:List Int}(hky:sL H ky ks)(hkr:dy H o0 (-1) ky ks)(hl:dy H o0 (-1) xl zl)(VT:zl.length≤maxLen)(hs:dy H o0 (-1) sc zs):aF (run KG) 8 [cv c,ky,xl,cv eu,.bool jx,sc] H λv H'=>v= .bool true:=by
 refine Ev.up (t:=λn=>F8 (run KG n) n (cv c) ky xl (cv eu) (.bool jx) sc H) ?_ λn=>aaY ..
 simp -implicitDefEqProofs only[F8,sS,Nat.reduceAdd];refine Ev.call (Z4 c hky hkr hl VT) ?_;rintro v H0 ⟨yp,xp,pp,mp,o0',m,UI,th,L,rfl,f0,hy,hI,hT⟩;obtain⟨Ga,hG⟩:=hT;have i:=hG.inv;obtain⟨a0,a1,a2⟩:=hy.ld;simp -implicitDefEqProofs only[a1,a2,Nat.add_zero,sS,Nat.reduceAdd];refine Ev.call (Z7 hy.Dr.look i hG.root o0' eu) ?_;rintro v H1 ⟨o1,node,slot,q,f1,rfl,so,hz⟩;obtain⟨H2,e2⟩: ∃z,z=H1.new ⟨[cv 0,cv 0],69,1,false⟩:=⟨_,rfl⟩;have n0:aS H1 69 1 [cv 0,cv 0]=(pv H1.length,H2):=by rw[e2];rfl
 have g2:H2.get H1.length=some ⟨[cv 0,cv 0],69,1,false⟩:=by rw[e2];exact aK
 have S:bD 2 (pv H1.length) (.agg #[cv node,cv slot]) H2=some (undef,H2.put H1.length ⟨[cv node,cv slot],69,1,false⟩):=by
  simp[bD,bZ,g2,Value.cells,known,aC,dz]
 obtain⟨H3,e3⟩: ∃z,z=H2.put H1.length ⟨[cv node,cv slot],69,1,false⟩:=⟨_,rfl⟩;rw[←e3] at S;obtain⟨o3,eo3⟩: ∃z,z=o1.up H1.length (-9):=⟨_,rfl⟩;have f13:Fr H1 o1 H3 o3 []:=by
  rw[e3,e2,eo3];exact((Fr.refl H1 o1 []).new _ _).put λhh=>by omega
 have f03:Fr H0 o0' H3 o3 []:=f1.tr f13;have c3:Cl H1.length [cv node,cv slot] 69 H3 o3:=⟨by rw[e3];exact aH g2,by rw[eo3];exact aO⟩
 have h3:=hy.fr f03 (by simp)
 have L1:aq (.pointer (some ⟨H1.length,1,none⟩)) H3=some (cv slot):=an _ 1 _ c3.1;obtain⟨a0,a1,a2⟩:=h3.ld;simp -implicitDefEqProofs only[n0,S,L1,a1,a2,Nat.add_zero,sS,Nat.reduceAdd];have hlm:=hy.Dr.Au;refine Ev.is (Dj h3.Dr.look hlm.1 slot) ?_
 try simp -implicitDefEqProofs only[sS,Nat.reduceAdd]
 obtain⟨w,ew⟩: ∃w,w=m.at slot:=⟨_,rfl⟩;rw[←ew];refine Ev.is (Us _) ?_
 try simp -implicitDefEqProofs only[sS,Nat.reduceAdd]
 refine Ev.eql (λk5=>?_) (λk5=>?_)<;>try simp -implicitDefEqProofs only[sS,Nat.reduceAdd]
 ·refine Ev.is (acp 34 (by decide) H3) ?_
  try simp -implicitDefEqProofs only[sS,Nat.reduceAdd]
  exact Ev.ret rfl
 have adW:dy H3 o3 (-1) sc zs:=(hs.fr f0 (by simp)).fr f03 (by simp)
 obtain⟨d,pq,tn⟩:=so.ty;have ad7:1≤node∧node≤65536:=i.Tx tn;have wn:IntKind.i64.wrap (node+2)=node+2:=gz (by omega)
 have zZ:JM (λH' o'=>Fr H3 o3 H' o' [-70, -71]) mp m H3:=h3.jm
 have J0: ∀(x0 cr UH:Value) (x:Int),Ev (λk=>Ib (run KG k) k [cv c,ky,xl,cv eu,.bool jx,sc,x0,pv yp,pv H1.length,cv x,cr,UH,undef,undef,undef,undef,undef,undef,undef,undef,undef,undef,undef,undef,undef] H3) λr=>r.1= .bool true:=by
  intro x0 cr UH x;simp -implicitDefEqProofs only[RK,GC,a1,a2,Nat.add_zero,sS,Nat.reduceAdd];refine Ev.call nI ?_;intro w0 H4 Re;have hy4:=h3.fr (Re.1.fr o3 (-9)) (by simp)
  obtain⟨b0,b1,b2⟩:=hy4.ld;refine Ev.call (mR zZ Re) ?_;rintro v H5 ⟨rfl,lJ⟩;obtain⟨e,ee⟩: ∃e,e=Y.dC m (.mk [0]):=⟨_,rfl⟩;rw[←ee] at lJ ⊢;simp -implicitDefEqProofs only[b0,b1,b2,iX,Nat.add_zero,sS,Nat.reduceAdd];have e1l:m.cs.length≤e.2.cs.length∧e.2.max=m.max:=by rw[ee];exact JT _ _
  obtain⟨_,o5,hm5,f5⟩:=lJ;have hy5:YR H5 o5 yp xp pp mp m e.2 UI th L:=h3.adN f5 hm5;have c5:=c3.fr f5 (by simp)
  refine Ev.call (Fp hy5 e1l.1 e1l.2.symm) ?_;rintro v H6 ⟨o6,aer,f6,hy6⟩;have c6:=c5.fr f6 (by simp)
  have adX:=(adW.fr f5 (by simp)).fr f6 (by simp)
  try simp -implicitDefEqProofs only[sS,Nat.reduceAdd]
  refine Ev.is (acp 34 (by decide) H6) ?_
  try simp -implicitDefEqProofs only[sS,Nat.reduceAdd]
  refine Ev.call (Q3 hy6) ?_;rintro v H7 ⟨rfl,o7,f7,hy7⟩;have c7:=c6.fr f7 (by simp)
  have adY:=adX.fr f7 (by simp)
  try simp -implicitDefEqProofs only[sS,Nat.reduceAdd]
  by_cases he:e.1>0
  rotate_left
  ·simp -implicitDefEqProofs only[decide_eq_false he,sS,Nat.reduceAdd];exact Ev.ret rfl
  simp -implicitDefEqProofs only[decide_eq_true he,sS,Nat.reduceAdd];refine Ev.is (V6 1 _) ?_;have C0:aq (pv H1.length) H7=some (cv node):=an _ 0 _ c7.1;have C1:aq (.pointer (some ⟨H1.length,1,none⟩)) H7=some (cv slot):=an _ 1 _ c7.1;simp -implicitDefEqProofs only[C0,C1,wn,Nat.add_zero,Nat.zero_add,sS,Nat.reduceAdd];obtain⟨y,ey⟩: ∃y,y=Y.fP 1 e.1:=⟨_,rfl⟩;rw[←ey];refine Ev.call (UD _ _ _ _) ?_;rintro v H8 ⟨rfl,e8⟩;have f8:Fr H7 o7 H8 (o7.up H7.length (-98)) []:=by rw[e8];exact(Fr.refl _ _ _).new _ _
  have pf8:PF H8 (o7.up H7.length (-98)) H7.length (-98) (Fq ⟨0,node+2,slot,x,y,0,0,0⟩):=by rw[e8];exact PF.new _
  generalize o7.up H7.length (-98)=o8 at f8 pf8
  have c8:=c7.fr f8 (by simp)
  have D0:aq (pv H1.length) H8=some (cv node):=an _ 0 _ c8.1;have D1:aq (.pointer (some ⟨H1.length,1,none⟩)) H8=some (cv slot):=an _ 1 _ c8.1;obtain⟨fp,efp⟩: ∃fp,fp=H7.length:=⟨_,rfl⟩;rw[←efp] at pf8 ⊢;simp -implicitDefEqProofs only[D0,D1,wn,adS,Nat.add_zero,Nat.zero_add,sS,Nat.reduceAdd];have hPr:zE (.ex (nS (node+2) slot x y)) 14 (node+2) slot x y ⟨0,0,0⟩:=.inr (.inr (.inr (.inr ⟨rfl,rfl⟩)));refine Ev.call (QB ft1 hPr H8 o8) ?_;rintro v H9 ⟨gp,o9,d9,r9,adZ,rfl,f9,hg9,ok9⟩;have er9:adZ=0:=ok9.2.1.trans (uk ..);subst er9;have hy9:=(hy7.fr f8 (by simp)).fr f9 (by simp)
  have hI9:Inv th L (211+3*0) (1680+0):=hI;have MF:DPS H9 o9 yp xp pp mp fp gp (node+2) slot x y 0 sc zs e.2 ⟨0,node+2,slot,x,y,0,0,0⟩ [] d9:=⟨⟨_,th,L,hy9,hI9⟩,⟨pf8.fr f9 (by simp),⟨by simp,by simp⟩,⟨rfl,rfl,rfl,rfl⟩,⟨r9,hg9,ok9⟩,by rw[Fs];rfl,λ_=>rfl,λh=>absurd rfl h⟩,by simp,.inl (by simp),(adY.fr f8 (by simp)).fr f9 (by simp)⟩
  try simp -implicitDefEqProofs only[sS,Nat.reduceAdd]
  refine Ev.loop (k:=40) (DPI c eu jx ky xl sc zs yp xp pp mp gp fp H1.length (node+2) slot x y) (DPE c eu jx ky xl sc yp xp pp mp gp fp H1.length (node+2) slot x y) ⟨0,o9,e.2,_,[],d9,⟨_,_,_,_,_,_,_,_,_,_,_,_,_,rfl⟩,rfl,MF⟩ (λkk vs Hx hx=>vk hx) ?_
  rintro ex vs Hx ⟨he',oz,mz,cz,thz,Lz,wz,s,T,⟨w12,w49,UH,w74,w17,w76,w16,w18,Nf,Ng,w22,w23,Nh,rfl⟩,hyz,h6,hp⟩;simp only at he' hyz hp;subst he';obtain⟨r,hg,dH⟩:=hp.fr';obtain⟨gd,_,gn,_⟩:=hg.gd;obtain⟨_,hr⟩:=Du hp.Ns dH hp.rel;have er:=hr h6;subst er;simp -implicitDefEqProofs only[RJ,GB,gd,gn,Nat.zero_add,sS,Nat.reduceAdd];refine Ev.is (UC (mD.start hyz hp.f (by decide))) ?_
  simp -implicitDefEqProofs only[gd,gn,vW,decide_true,lS,Nat.zero_add,sS,Nat.reduceAdd];refine Ev.call (Q3 hyz) ?_;rintro v H10 ⟨rfl,_⟩
  try simp -implicitDefEqProofs only[gn,lS,sS,Nat.reduceAdd]
  exact Ev.ret rfl
 cases jx<;>simp -implicitDefEqProofs only[sS,Nat.reduceAdd]
 ·exact J0 _ _ _ _
 ·exact J0 _ _ _ _
end
end Go.Proofs.YtgfgglponbmgmaaGreat.Fun
namespace Go.Proofs.YtgfgglponbmgmaaGreat.Pure
open Go.RowKit Go.Proofs.YtgfgglponbmgmaaGreatA.Am Fun
set_option maxRecDepth 10000
theorem Ax:Vn Tryz.prog 8 [3,22,22,3,4,22]:=Zg λH args hr hi=>by
 obtain⟨v0,_,rfl,h0,v1,_,rfl,h1,v2,_,rfl,h2,v3,_,rfl,h3,v4,_,rfl,h4,v5,_,rfl,h5,rfl⟩:=hi;obtain⟨c,rfl,_⟩:=h0.int uI;obtain⟨eu,rfl,_⟩:=h3.int uI;obtain⟨lay,rfl⟩:=h4.bool (show Tryz.prog.underlying 4=some .bool from by kernel_rfl)
 obtain⟨ks,DN,hk2,_⟩:=mc.aco (show Tryz.prog.underlying 22=some (.slice 3) from by kernel_rfl) uI (by kernel_rfl) h1
 obtain⟨zl,hz1,_,RA⟩:=h2.ints (show Tryz.prog.underlying 22=some (.slice 3) from by kernel_rfl) uI (by kernel_rfl)
 obtain⟨zs,NG,_,_⟩:=h5.ints (show Tryz.prog.underlying 22=some (.slice 3) from by kernel_rfl) uI (by kernel_rfl)
 obtain⟨N,⟨v,H1⟩,e1,e2⟩:=Aw c eu lay DN hk2 hz1 RA NG;have e3:=e1 N (Nat.le_refl _);simp only at e2 e3;exact⟨N,H1,by rw[e3,e2]⟩
end Go.Proofs.YtgfgglponbmgmaaGreat.Pure
end
section
namespace Go.Proofs.YtgfgglponbmgmaaGreat.BA
open Go.ChangeShapes Go.WideShapes Go.ChangeAt Go.RowKit Go.Proofs.YtgfgglponbmgmaaGreatA.Am
theorem own:ownKnob Tryz.prog.godebug=none:=by kernel_rfl
set_option maxRecDepth 100000 in
theorem lifted (os:Os)(started:os.Started)(H:Type)(enc:TypeId×Value→H):
  ReturnsInHanded {} Tryz.checked os 8 .any (Rows.dcssPlaysSpec.pre6 enc Tryz.prog Tryz.f8 Rows.dcssPlaysRow.domain false) (Rows.dcssPlaysSpec.post enc Tryz.prog Tryz.f8 false true false false):=by
 refine returnsInHanded_of_change_sized (C:=Tryz.checked) own started (by kernel_rfl) Tryz.func8
  (ChangeSpec.witness6 (enc:=enc) (C:=Tryz.checked) false ⟨#[],#[.int .i64 0,.slice none 0 0,.slice none 0 0,.int .i64 0,.bool false,.slice none 0 0],[]⟩ 8 (by kernel_rfl) (by kernel_rfl) (by kernel_rfl) (by kernel_rfl)) ?_
 intro W base args ds gs before V8 hW aes FP _;have oF: ∀(j:Nat) t v,Tryz.f8.params[j]? =some t→args[j]? =some v→Value.okWide Tryz.prog W .any base t v:=V8;have hW':=hW;obtain⟨p,q,hA0,hV,rfl,hfz,hnd⟩:=hW;have hA:DataW.TrodAll enc Tryz.prog W 0 (λ_=>true) true Tryz.f8.params.toList args.toList ds p:=hA0
 rw[Tryz.params8] at hA oF;obtain⟨rfl,rfl⟩:=trodVars_none hV;have gF: ∀x∈p,x.block<W.heap.size:=λx hx=>by simpa using hW'.lt x (by simpa using hx)
 have hw:=Vn.walk Pure.Ax (by kernel_rfl) (vs:=args.toList) (λj t v e1 e2=>oF j t v (by simpa using e1) (by simpa using e2)) hA
 have hA2:=hA;obtain⟨_,vs0,d0,ds0,p0,q0,_,rfl,_,_,r0⟩:=trodAll_cons hA2;obtain⟨_,F1,d1,ds1,p1,q1,rfl,rfl,rfl,_,r1⟩:=trodAll_cons r0;obtain⟨_,Wo,d2,ds2,p2,q2,rfl,rfl,rfl,_,r2⟩:=trodAll_cons r1;obtain⟨_,vs3,d3,ds3,p3,q3,rfl,rfl,rfl,_,r3⟩:=trodAll_cons r2;obtain⟨_,vs4,d4,ds4,p4,q4,rfl,rfl,rfl,_,r4⟩:=trodAll_cons r3;obtain⟨_,vs5,d5,ds5,p5,q5,rfl,rfl,rfl,_,r5⟩:=trodAll_cons r4;obtain⟨_,rfl,_⟩:=trodAll_nil r5;clear hA0 V8 FP;rw[Array.toArray_toList] at hw;refine hw.mono λe W' ⟨he,bel⟩=>?_
 subst he;exact⟨_,rfl,_,_,_,[],_,[],hW',trodAll_mk1 (shut_bool Tryz.underlying4 _),Ms (by kernel_rfl) _ _ _ _ (by kernel_rfl) hA bel gF,rfl,bel.frame _,λh=>by cases h⟩
theorem ad0:Rows.dcssPlaysRow.holds Tryz.pinned (OpenSpec.ofChange Rows.dcssPlaysSpec):=
 OpenClaim.holds_of_wide 8 Tryz.f8 rfl rfl rfl rfl rfl rfl rfl ⟨rfl,rfl,rfl,rfl,rfl⟩ rfl rfl rfl rfl rfl (by kernel_rfl) Tryz.func8 (by kernel_rfl)
  (of_decide_eq_true (by kernel_rfl)) (by unfold Func.isWrapper;first| (rw[if_pos (by decide +kernel)];kernel_rfl)| (rw[if_neg (by decide +kernel)];exact⟨rfl,rfl⟩))
  (λos started H enc _=>lifted os started H enc)
theorem proved:Rows.DcssPlaysSaid:=ad0
end Go.Proofs.YtgfgglponbmgmaaGreat.BA
namespace Go.Proofs.YtgfgglponbmgmaaGreat
theorem dcssPlays_holds:Rows.DcssPlaysSaid:=BA.proved
end Go.Proofs.YtgfgglponbmgmaaGreat
end
