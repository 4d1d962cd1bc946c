/- Texts of the proof of helpPlays_holds, put together by a small program of ours (names shortened, spaces taken out). No condition beyond the given statement. -/
import Derived.Test.YtgfgglponbmgmaaGreatHPL10
import Derived.Test.YtgfgglponbmgmaaGreatHPL39
import Derived.Test.YtgfgglponbmgmaaGreatRows
import Derived.WalkKit
import Derived.ProofKit
import Derived.OpenShut
import Derived.ShutString
import Derived.ChangeOld
import Derived.Below
import Derived.SizedLaws
set_option linter.unusedVariables false
set_option linter.unusedSimpArgs false
set_option linter.unnecessarySimpa false
noncomputable section
section
namespace Go.Proofs.YtgfgglponbmgmaaGreat.Fun
open Go Go.RowKit Go.Proofs.YtgfgglponbmgmaaGreatA.Am
set_option maxRecDepth 10000
section
open Go.Proofs.YtgfgglponbmgmaaGreatA
variable {H:aa} {o:aj} {yp xp pp mp fp gp:Nat} {m mP:Y.Mm} {cr:Int} {th:jz} {L:List kq}
structure Dy (H:aa) (o:aj) (fp gp:Nat) (tag tf tg:Int) (a:Int) (s:Dx) (T:List Int) (d:Bool):Prop where
 f:PF H o fp tag (HK s)
 Rh:zI s
 g: ∃r rec,hZ H o gp tf tg (.ex (nT a)) T d r rec∧FN (.ex (nT a)) T d r rec
 rel:Y.after (nT a) T=sR s
theorem Dy.fr {tag tf tg a:Int}{s:Dx}{T:List Int}{d:Bool}{H':aa}{o':aj}{ps:List Int}(h:Dy H o fp gp tag tf tg a s T d)(f:Fr H o H' o' ps)(h1:tag ∉ ps)(h2:tf ∉ ps)(h3:tg ∉ ps)(h4:(-41:Int) ∉ ps):Dy H' o' fp gp tag tf tg a s T d:=by
 obtain⟨r,rec,hg,dR⟩:=h.g;exact⟨h.f.fr f h1,h.Rh,⟨r,rec,hg.fr f h2 h3 h4,dR⟩,h.rel⟩
theorem Dy.gd {tag tf tg a:Int}{s:Dx}{T:List Int}{d:Bool}(h:Dy H o fp gp tag tf tg a s T d):aq (.pointer (some ⟨gp,23,none⟩)) H=some (.bool d):=by
 obtain⟨r,rec,⟨proc,a,b,p,q,op,tape,s,laid,g,_⟩,_⟩:=h.g;exact an gp 23 H g
theorem Kc {s:Dx}(h:zI s)(m:Y.Mm):(∃a,sR s= .ret a∧sR (bP s m).1=sR s∧(bP s m).2=m)∨(∃q k,sR s= .ask q k∧Y.norm (k (Y.db m q).1)=sR (bP s m).1∧(bP s m).2=(Y.db m q).2):=by
 by_cases e:s.next=7
 ·have es:=(pJ h m).2.2.2 e;rw[es];exact .inl ⟨_,VD e,rfl,rfl⟩
 ·obtain⟨q,k,e1,e2,e3⟩:=J9 h e m;exact .inr ⟨q,k,e1,by rw[e3];exact QX _,e2⟩
theorem Kd {a:Int}{s:Dx}{T:List Int}{d:Bool}{r:eE}{rec:Int}(hi:zI s)(dR:FN (.ex (nT a)) T d r rec)(mA:Y.after (nT a) T=sR s):d=decide (s.next=7):=by
 obtain⟨k1,k2⟩:=dR.done mA;by_cases e:s.next=7
 ·rw[decide_eq_true e];exact(k1 _ (VD e)).1
 ·rw[decide_eq_false e];obtain⟨q,k,e1,_⟩:=J9 hi e ⟨[],0⟩;exact k2 q k e1
theorem ad2 (t:TypeId)(a:Int):ai Tryz.prog .quo t (cv a) (cv 5)=some (cv (IntKind.i64.wrap (a.tdiv 5))):=mi _ a 5 (by decide)
theorem aci (a:Int):aE Tryz.prog 41 [(0,cv a)]=some (.agg (ax a 0 0 0 ⟨0,0,0⟩).toArray):=by kernel_rfl
structure HPS (H:aa) (o:aj) (yp xp pp mp fp gp fx gx:Nat) (a:Int) (i:Nat) (sc:Value) (zs:List Int) (m:Y.Mm):Prop where
 y: ∃cr th L,YR H o yp xp pp mp m m cr th L∧Inv th L (211+3*i) (1680+i)
 p: ∃s T d,Dy H o fp gp (-96) (-301) (-302) a s T d∧T.length≤i
 q: ∃s T d,Dy H o fx gx (-97) (-303) (-304) a s T d∧T.length≤i
 sc:dH H o (-1) sc zs
theorem ft1:FT (-301) (-302):=⟨by decide,by decide,by decide⟩
theorem ft2:FT (-303) (-304):=⟨by decide,by decide,by decide⟩
def HPW (c cI a:Int)(shut:Bool)(ky xl sc:Value)(yp gp gx fp fx:Nat)(i:Value)(vs:List Value):Prop:=∃DG DH DI DJ DK Us HL HM DL DM oa qS DN DO og:Value,vs=[cv c,ky,xl,cv cI,.bool shut,sc,DG,pv yp,DH,cv a,DI,i,pv gp,pv gx,DJ,DK,Us,HL,HM,pv fp,DL,DM,oa,qS,pv fx,DN,DO,og]
def ZC (c cI a:Int)(shut:Bool)(ky xl sc:Value)(zs:List Int)(yp xp pp mp gp gx fp fx:Nat)(kk:Nat)(vs:List Value)(Hx:aa):Prop:=∃(i:Nat) (ox:aj) (m:Y.Mm),HPW c cI a shut ky xl sc yp gp gx fp fx (cv i) vs∧i+kk=60∧HPS Hx ox yp xp pp mp fp gp fx gx a i sc zs m
def ZD (c cI a:Int)(shut:Bool)(ky xl sc:Value)(yp xp pp mp gp gx fp fx:Nat)(r:bA×List Value×aa):Prop:=r.1= .exit 0∧∃(ox:aj) (m:Y.Mm) (cr:Int) (th:jz) (L:List kq) (w:Value),HPW c cI a shut ky xl sc yp gp gx fp fx w r.2.1∧YR r.2.2 ox yp xp pp mp m m cr th L
theorem Dz (a b:Bool):ai Tryz.prog .neq 4 (.bool a) (.bool b)=some (.bool (!(a==b))):=Py a b (by kernel_rfl)
theorem vp {c cI a:Int}{shut:Bool}{ky xl sc:Value}{zs:List Int}{yp xp pp mp gp gx fp fx:Nat}{kk:Nat}{vs:List Value}(h:ZC c cI a shut ky xl sc zs yp xp pp mp gp gx fp fx kk vs H):
  Ev (λn=>Il (run KG n) n vs H) λr=>(r.1= .normal∧∃k',k'<kk∧ZC c cI a shut ky xl sc zs yp xp pp mp gp gx fp fx k' r.2.1 r.2.2)∨(r.1≠ .normal∧ZD c cI a shut ky xl sc yp xp pp mp gp gx fp fx r):=by
 obtain⟨i,ox,m,⟨DG,DH,DI,DJ,DK,Us,HL,HM,DL,DM,oa,qS,DN,DO,og,rfl⟩,hik,kY⟩:=h;have J2: ∀{Hz:aa} {oz:aj} {mz:Y.Mm} (DG DH DI DJ DK Us HL HM DL DM oa qS DN DO og:Value),HPS Hz oz yp xp pp mp fp gp fx gx a (i+1) sc zs mz→i<60→Ev (λn=>AX (run KG n) n [cv c,ky,xl,cv cI,.bool shut,sc,DG,pv yp,DH,cv a,DI,cv i,pv gp,pv gx,DJ,DK,Us,HL,HM,pv fp,DL,DM,oa,qS,pv fx,DN,DO,og] Hz) λr=>(r.1= .normal∧∃k',k'<kk∧ZC c cI a shut ky xl sc zs yp xp pp mp gp gx fp fx k' r.2.1 r.2.2)∨(r.1≠ .normal∧ZD c cI a shut ky xl sc yp xp pp mp gp gx fp fx r):=by
  intro Hz oz mz DG DH DI DJ DK Us HL HM DL DM oa qS DN DO og hz hi;have hw:IntKind.i64.wrap ((i:Int)+1)=((i+1:Nat):Int):=by rw[ga (by omega)];rfl
  simp -implicitDefEqProofs only[RB,Gz,hw,sS,Nat.reduceAdd];exact Ev.ret (.inl ⟨rfl,59-i,by omega,i+1,oz,mz,⟨_,_,_,_,_,_,_,_,_,_,_,_,_,_,_,rfl⟩,by omega,hz⟩)
 obtain⟨cr,th,L,hy,hI⟩:=kY.y;obtain⟨s,T,d,hp,VP⟩:=kY.p;obtain⟨sx,Tx,dx,hq,hql⟩:=kY.q;have Zh:=kY.sc;have g1:=hp.gd;have g2:=hq.gd;obtain⟨b0,b1,b2⟩:=hy.ld;have J5:i<60→∀(DG DH DI DJ DK HL HM DL DM oa DN DO og:Value) (n:Int) (b:Bool),Ev (λk=>ED (run KG k) k [cv c,ky,xl,cv cI,.bool shut,sc,DG,pv yp,DH,cv a,DI,cv i,pv gp,pv gx,DJ,DK,cv n,HL,HM,pv fp,DL,DM,oa,.bool b,pv fx,DN,DO,og] H) λr=>(r.1= .normal∧∃k',k'<kk∧ZC c cI a shut ky xl sc zs yp xp pp mp gp gx fp fx k' r.2.1 r.2.2)∨(r.1≠ .normal∧ZD c cI a shut ky xl sc yp xp pp mp gp gx fp fx r):=by
  intro hi DG DH DI DJ DK HL HM DL DM oa DN DO og n b;cases b
  ·simp -implicitDefEqProofs only[Ij,Ce,ad2,sS,Nat.reduceAdd];refine Ev.call (Uo hy hI (by omega) (by omega) _) ?_
   rintro v H1 ⟨o1,m1,Ns,jJ,L1,f1,MX,wm,_⟩
   try simp -implicitDefEqProofs only[sS,Nat.reduceAdd]
   exact J2 _ _ _ _ _ _ _ _ _ _ _ _ _ _ _ ⟨⟨Ns,jJ,L1,MX,by have:=wm.len;omega,wm.lists,λj hj=>by have:=wm.tape j hj;omega⟩,⟨s,T,d,hp.fr f1 (by decide) (by decide) (by decide) (by decide),by omega⟩,⟨sx,Tx,dx,hq.fr f1 (by decide) (by decide) (by decide) (by decide),by omega⟩,Zh.fr f1 (by decide)⟩ hi
  ·simp -implicitDefEqProofs only[Ij,Ce,b0,Nat.add_zero,sS,Nat.reduceAdd];refine Ev.call (QZ hy hq.f (by decide) hq.Rh) ?_
   rintro v H1 ⟨rfl,o1,Ns,f1,MX,hf1⟩;obtain⟨c0,c1,c2⟩:=MX.ld;obtain⟨r,rec,hg,dR⟩:=hq.g;simp -implicitDefEqProofs only[c1,c2,Nat.add_zero,sS,Nat.reduceAdd];refine Ev.call (Kb MX (hg.fr f1 (by decide) (by decide) (by decide)) dR (by omega) ft2 (by decide) (by decide) hq.rel (Kc hq.Rh m)) ?_
   rintro v H2 ⟨o2,T2,d2,r2,ZE,rfl,f2,FK,hg2,Q0,FE,acj⟩;have Q2:=(pJ hq.Rh m).1;have Re:=Kd Q2 Q0 FE;subst Re;have TY:=hf1.fr f2 (by decide)
   have kn:Dy H2 o2 fx gx (-97) (-303) (-304) a (bP sx m).1 T2 _:=⟨TY,Q2,⟨r2,ZE,hg2,Q0⟩,FE⟩;have gd2:=kn.gd;simp -implicitDefEqProofs only[Dz,beq_self_eq_true,Bool.not_true,sS,Nat.reduceAdd];refine Ev.is (zK (pX.start FK TY (by decide))) ?_
   simp -implicitDefEqProofs only[Dz,gd2,beq_self_eq_true,Bool.not_true,Er,Nat.add_zero,sS,Nat.reduceAdd];exact J2 _ _ _ _ _ _ _ _ _ _ _ _ _ _ _ ⟨⟨Ns,th,L,FK,by have:=hI.len;omega,hI.lists,λj hj=>by have:=hI.tape j hj;omega⟩,⟨s,T,d,(hp.fr f1 (by decide) (by decide) (by decide) (by decide)).fr f2 (by decide) (by decide) (by decide) (by decide),by omega⟩,⟨_,T2,_,kn,by omega⟩,(Zh.fr f1 (by decide)).fr f2 (by decide)⟩ hi
 have J4:i<60→∀(DG DH DI DJ DK DL DM oa qS DN DO og:Value) (n z:Int) (b:Bool),Ev (λk=>EF (run KG k) k [cv c,ky,xl,cv cI,.bool shut,sc,DG,pv yp,DH,cv a,DI,cv i,pv gp,pv gx,DJ,DK,cv n,cv z,.bool b,pv fp,DL,DM,oa,qS,pv fx,DN,DO,og] H) λr=>(r.1= .normal∧∃k',k'<kk∧ZC c cI a shut ky xl sc zs yp xp pp mp gp gx fp fx k' r.2.1 r.2.2)∨(r.1≠ .normal∧ZD c cI a shut ky xl sc yp xp pp mp gp gx fp fx r):=by
  intro hi DG DH DI DJ DK DL DM oa qS DN DO og n z b;cases b
  ·simp -implicitDefEqProofs only[Ik,Ck,sS,Nat.reduceAdd];refine Ev.eql (λh0=>?_) (λh0=>?_)<;>try simp -implicitDefEqProofs only[sS,Nat.reduceAdd]
   ·exact J5 hi _ _ _ _ _ _ _ _ _ _ _ _ _ _ _
   ·refine Ev.eql (λh0=>?_) (λh0=>?_)<;>try simp -implicitDefEqProofs only[sS,Nat.reduceAdd]
    ·exact J5 hi _ _ _ _ _ _ _ _ _ _ _ _ _ _ _
    ·exact J5 hi _ _ _ _ _ _ _ _ _ _ _ _ _ _ _
  ·simp -implicitDefEqProofs only[Ik,Ck,b0,Nat.add_zero,sS,Nat.reduceAdd];refine Ev.call (QZ hy hp.f (by decide) hp.Rh) ?_
   rintro v H1 ⟨rfl,o1,Ns,f1,MX,hf1⟩;obtain⟨c0,c1,c2⟩:=MX.ld;obtain⟨r,rec,hg,dR⟩:=hp.g;simp -implicitDefEqProofs only[c1,c2,Nat.add_zero,sS,Nat.reduceAdd];refine Ev.call (Kb MX (hg.fr f1 (by decide) (by decide) (by decide)) dR (by omega) ft1 (by decide) (by decide) hp.rel (Kc hp.Rh m)) ?_
   rintro v H2 ⟨o2,T2,d2,r2,ZE,rfl,f2,FK,hg2,Q0,FE,acj⟩;have Q2:=(pJ hp.Rh m).1;have Re:=Kd Q2 Q0 FE;subst Re;have TY:=hf1.fr f2 (by decide)
   have FI:Dy H2 o2 fp gp (-96) (-301) (-302) a (bP s m).1 T2 _:=⟨TY,Q2,⟨r2,ZE,hg2,Q0⟩,FE⟩;have gd2:=FI.gd;simp -implicitDefEqProofs only[Dz,beq_self_eq_true,Bool.not_true,sS,Nat.reduceAdd];refine Ev.is (zK (pX.start FK TY (by decide))) ?_
   simp -implicitDefEqProofs only[Dz,gd2,beq_self_eq_true,Bool.not_true,Er,Nat.add_zero,sS,Nat.reduceAdd];exact J2 _ _ _ _ _ _ _ _ _ _ _ _ _ _ _ ⟨⟨Ns,th,L,FK,by have:=hI.len;omega,hI.lists,λj hj=>by have:=hI.tape j hj;omega⟩,⟨_,T2,_,FI,by omega⟩,⟨sx,Tx,dx,(hq.fr f1 (by decide) (by decide) (by decide) (by decide)).fr f2 (by decide) (by decide) (by decide) (by decide),by omega⟩,(Zh.fr f1 (by decide)).fr f2 (by decide)⟩ hi
 have J3:i<60→∀(DG DH DI DJ DK HL HM DL DM oa qS DN DO og:Value) (n:Int),Ev (λk=>EG (run KG k) k [cv c,ky,xl,cv cI,.bool shut,sc,DG,pv yp,DH,cv a,DI,cv i,pv gp,pv gx,DJ,DK,cv n,HL,HM,pv fp,DL,DM,oa,qS,pv fx,DN,DO,og] H) λr=>(r.1= .normal∧∃k',k'<kk∧ZC c cI a shut ky xl sc zs yp xp pp mp gp gx fp fx k' r.2.1 r.2.2)∨(r.1≠ .normal∧ZD c cI a shut ky xl sc yp xp pp mp gp gx fp fx r):=by
  intro hi DG DH DI DJ DK HL HM DL DM oa qS DN DO og n;simp -implicitDefEqProofs only[RF,GL,sS,Nat.reduceAdd];refine Ev.call (kG n 5 (by omega)) ?_
  rintro v H1 ⟨z,rfl,Uz,hz5,rfl⟩
  try simp -implicitDefEqProofs only[sS,Nat.reduceAdd]
  refine Ev.eql (λh0=>?_) (λh0=>?_)<;>try simp -implicitDefEqProofs only[sS,Nat.reduceAdd]
  ·exact J4 hi _ _ _ _ _ _ _ _ _ _ _ _ _ _ _
  ·refine Ev.eql (λh0=>?_) (λh0=>?_)<;>try simp -implicitDefEqProofs only[sS,Nat.reduceAdd]
   ·exact J4 hi _ _ _ _ _ _ _ _ _ _ _ _ _ _ _
   ·exact J4 hi _ _ _ _ _ _ _ _ _ _ _ _ _ _ _
 have END: ∀(DG DH DI DJ DK Us HL HM DL DM oa qS DN DO og:Value),(bA.exit 0)≠bA.normal∧ZD c cI a shut ky xl sc yp xp pp mp gp gx fp fx (.exit 0,[cv c,ky,xl,cv cI,.bool shut,sc,DG,pv yp,DH,cv a,DI,cv i,pv gp,pv gx,DJ,DK,Us,HL,HM,pv fp,DL,DM,oa,qS,pv fx,DN,DO,og],H):=λDG DH DI DJ DK Us HL HM DL DM oa qS DN DO og=>⟨by simp,rfl,ox,m,cr,th,L,_,⟨_,_,_,_,_,_,_,_,_,_,_,_,_,_,_,rfl⟩,hy⟩
 have hl:=Zh.1.len;simp -implicitDefEqProofs only[RG,GM,sS,Nat.reduceAdd];refine Ev.lss (λhi=>?_) (λhi=>?_)
 ·have qT:i<60:=by omega
  by_cases hd:d=true∧dx=true
  ·obtain⟨rfl,rfl⟩:=hd;simp -implicitDefEqProofs only[g1,g2,Nat.add_zero,sS,Nat.reduceAdd];exact Ev.ret (.inr (END _ _ _ _ _ _ _ _ _ _ _ _ _ _ _))
  ·cases d<;>cases dx<;>first|exact absurd ⟨rfl,rfl⟩ hd|skip
   all_goals
    simp -implicitDefEqProofs only[g1,g2,hl,Nat.add_zero,sS,Nat.reduceAdd];refine Ev.lss (λh1=>?_) (λh1=>?_)
    ·obtain⟨q,off,b,e1,e2,e3⟩:=Zh.1.idx (j:=i) (by omega)
     have e4:aq (.pointer (some ⟨q,off,none⟩)) H=some (cv (zs.getD i 0)):=(an q off H e2).trans e3;simp -implicitDefEqProofs only[e1,e4,sS,Nat.reduceAdd];exact J3 qT _ _ _ _ _ _ _ _ _ _ _ _ _ _ _
    ·try simp -implicitDefEqProofs only[sS,Nat.reduceAdd]
     exact J3 qT _ _ _ _ _ _ _ _ _ _ _ _ _ _ _
 ·try simp -implicitDefEqProofs only[sS,Nat.reduceAdd]
  exact Ev.ret (.inr (END _ _ _ _ _ _ _ _ _ _ _ _ _ _ _))
theorem Ax (c cI:Int)(shut:Bool){ky xl sc:Value}{ks zl zs:List Int}(hky:sP H ky ks)(hkr:dH H o0 (-1) ky ks)(hl:dH H o0 (-1) xl zl)(Vp:zl.length≤maxLen)(hs:dH H o0 (-1) sc zs):aF (run KG) 3 [cv c,ky,xl,cv cI,.bool shut,sc] H λv H'=>v= .bool true:=by
 refine Ev.up (t:=λn=>F3 (run KG n) n (cv c) ky xl (cv cI) (.bool shut) sc H) ?_ λn=>aaH ..
 try simp -implicitDefEqProofs only[F3,sS,Nat.reduceAdd]
 refine Ev.call (Zw c hky hkr hl Vp) ?_;rintro v H1 ⟨yp,xp,pp,mp,o1,m1,Ns,th,L,rfl,f1,MX,hI,hT⟩;obtain⟨Ga,hG⟩:=hT
 try simp -implicitDefEqProofs only[sS,Nat.reduceAdd]
 refine Ev.call (ace MX hG.inv hG.root cI shut) ?_;rintro v H2 ⟨o2,node,slot,q,aeu,f2,so,hz,rfl,FK⟩;obtain⟨G2,hG2,_,VE⟩:=Nr hG so hz shut;obtain⟨a,ea⟩: ∃a,a=(ji m1 node slot shut).1:=⟨_,rfl⟩;obtain⟨m,em⟩: ∃m,m=(ji m1 node slot shut).2:=⟨_,rfl⟩;rw[←em, ←ea] at VE;rw[←em] at FK hG2;rw[←ea]
 try simp -implicitDefEqProofs only[sS,Nat.reduceAdd]
 refine Ev.is (adY 14 (by decide) H2) ?_
 try simp -implicitDefEqProofs only[sS,Nat.reduceAdd]
 refine Ev.call (QU FK) ?_;rintro v H3 ⟨rfl,o3,f3,hy3⟩
 try simp -implicitDefEqProofs only[sS,Nat.reduceAdd]
 refine Ev.eql (λh0=>?_) (λh0=>?_)<;>try simp -implicitDefEqProofs only[sS,Nat.reduceAdd]
 ·exact Ev.ret rfl
 have hla:=VE h0;obtain⟨x,_,ta⟩:=hla.ty;have ha: -9223372036854775808≤a∧a≤65536:=by have:=hG2.inv.Ra ta;omega
 have ad3:dH H3 o3 (-1) sc zs:=((hs.fr f1 (by simp)).fr f2 (by simp)).fr f3 (by simp)
 refine Ev.call (Ka a) ?_;rintro v H4 ⟨rfl,e4⟩;have f4:Fr H3 o3 H4 (o3.up H3.length (-96)) []:=by rw[e4];exact(Fr.refl _ _ _).new _ _
 have pf4:PF H4 (o3.up H3.length (-96)) H3.length (-96) (HK ⟨0,a,0,0,0,0⟩):=by rw[e4];exact PF.new _
 generalize o3.up H3.length (-96)=o4 at f4 pf4
 obtain⟨fp,efp⟩: ∃fp,fp=H3.length:=⟨_,rfl⟩;rw[←efp] at pf4 ⊢
 try simp -implicitDefEqProofs only[sS,Nat.reduceAdd]
 refine Ev.call (Ka a) ?_;rintro v H5 ⟨rfl,e5⟩;have f5:Fr H4 o4 H5 (o4.up H4.length (-97)) []:=by rw[e5];exact(Fr.refl _ _ _).new _ _
 have pf5:PF H5 (o4.up H4.length (-97)) H4.length (-97) (HK ⟨0,a,0,0,0,0⟩):=by rw[e5];exact PF.new _
 generalize o4.up H4.length (-97)=o5 at f5 pf5
 obtain⟨fx,efx⟩: ∃fp,fp=H4.length:=⟨_,rfl⟩;rw[←efx] at pf5 ⊢;have hPr:zD (.ex (nT a)) 12 a 0 0 0 ⟨0,0,0⟩:=.inr (.inr (.inl ⟨rfl,ha,rfl⟩))
 try simp -implicitDefEqProofs only[aci,sS,Nat.reduceAdd]
 refine Ev.call (HB ft1 hPr H5 o5) ?_;rintro v H6 ⟨gp,o6,d6,r6,abR,rfl,f6,hg6,ok6⟩
 try simp -implicitDefEqProofs only[aci,sS,Nat.reduceAdd]
 refine Ev.call (HB ft2 hPr H6 o6) ?_;rintro v H7 ⟨gx,o7,d7,r7,ad4,rfl,f7,hg7,ok7⟩;have ack:zI ⟨0,a,0,0,0,0⟩:=⟨by simp,by simp,ha.1,ha.2⟩
 have acm:Y.after (nT a) []=sR ⟨0,a,0,0,0,0⟩:=by rw[QW];rfl
 have hy7:=(((hy3.fr f4 (by simp)).fr f5 (by simp)).fr f6 (by simp)).fr f7 (by simp)
 have MT:HPS H7 o7 yp xp pp mp fp gp fx gx a 0 sc zs m:=⟨⟨_,th,L,hy7,hI⟩,⟨_,[],d6,⟨((pf4.fr f5 (by simp)).fr f6 (by simp)).fr f7 (by simp),ack,⟨r6,abR,hg6.fr f7 (by simp) (by simp) (by simp),ok6⟩,acm⟩,by simp⟩,⟨_,[],d7,⟨(pf5.fr f6 (by simp)).fr f7 (by simp),ack,⟨r7,ad4,hg7,ok7⟩,acm⟩,by simp⟩,(((ad3.fr f4 (by simp)).fr f5 (by simp)).fr f6 (by simp)).fr f7 (by simp)⟩
 try simp -implicitDefEqProofs only[sS,Nat.reduceAdd]
 refine Ev.loop (k:=60) (ZC c cI a shut ky xl sc zs yp xp pp mp gp gx fp fx) (ZD c cI a shut ky xl sc yp xp pp mp gp gx fp fx) ⟨0,o7,m,⟨_,_,_,_,_,_,_,_,_,_,_,_,_,_,_,rfl⟩,rfl,MT⟩ (λkk vs Hx hx=>vp hx) ?_
 rintro e vs Hx ⟨he,ox,m,cr,th,L,w,⟨DG,DH,DI,DJ,DK,Us,HL,HM,DL,DM,oa,qS,DN,DO,og,rfl⟩,hy⟩;simp only at he;subst he;simp -implicitDefEqProofs only[RA,Gy,sS,Nat.reduceAdd];refine Ev.call (QU hy) ?_;rintro v H9 ⟨rfl,_⟩
 try simp -implicitDefEqProofs only[sS,Nat.reduceAdd]
 exact Ev.ret rfl
end
end Go.Proofs.YtgfgglponbmgmaaGreat.Fun
namespace Go.Proofs.YtgfgglponbmgmaaGreat.Pure
open Go.RowKit Go.Proofs.YtgfgglponbmgmaaGreatA.Am Fun
set_option maxRecDepth 10000
theorem Ay:UU Tryz.prog 3 [3,22,22,3,4,22]:=YH λH args hr hi=>by
 obtain⟨v0,_,rfl,h0,v1,_,rfl,h1,v2,_,rfl,h2,v3,_,rfl,h3,v4,_,rfl,h4,v5,_,rfl,h5,rfl⟩:=hi;obtain⟨c,rfl,_⟩:=h0.int uI;obtain⟨cI,rfl,_⟩:=h3.int uI;obtain⟨lay,rfl⟩:=h4.bool (show Tryz.prog.underlying 4=some .bool from by kernel_rfl)
 obtain⟨ks,D2,hk2,_⟩:=mh.acg (show Tryz.prog.underlying 22=some (.slice 3) from by kernel_rfl) uI (by kernel_rfl) h1
 obtain⟨zl,ZI,_,Ry⟩:=h2.ints (show Tryz.prog.underlying 22=some (.slice 3) from by kernel_rfl) uI (by kernel_rfl)
 obtain⟨zs,NR,_,_⟩:=h5.ints (show Tryz.prog.underlying 22=some (.slice 3) from by kernel_rfl) uI (by kernel_rfl)
 obtain⟨N,⟨v,H1⟩,e1,e2⟩:=Ax c cI lay D2 hk2 ZI Ry NR;have e3:=e1 N (Nat.le_refl _);simp only at e2 e3;exact⟨N,H1,by rw[e3,e2]⟩
end Go.Proofs.YtgfgglponbmgmaaGreat.Pure
end
section
namespace Go.Proofs.YtgfgglponbmgmaaGreat.BD
open Go.ChangeShapes Go.WideShapes Go.ChangeAt Go.RowKit Go.Proofs.YtgfgglponbmgmaaGreatA.Am
theorem own:ownKnob Tryz.prog.godebug=none:=by kernel_rfl
set_option maxRecDepth 100000 in
theorem lifted (os:Os)(started:os.Started)(H:Type)(enc:TypeId×Value→H):
  ReturnsInHanded {} Tryz.checked os 3 .any (Rows.helpPlaysSpec.pre6 enc Tryz.prog Tryz.f3 Rows.helpPlaysRow.domain false) (Rows.helpPlaysSpec.post enc Tryz.prog Tryz.f3 false true false false):=by
 refine returnsInHanded_of_change_sized (C:=Tryz.checked) own started (by kernel_rfl) Tryz.func3
  (ChangeSpec.witness6 (enc:=enc) (C:=Tryz.checked) false ⟨#[],#[.int .i64 0,.slice none 0 0,.slice none 0 0,.int .i64 0,.bool false,.slice none 0 0],[]⟩ 8 (by kernel_rfl) (by kernel_rfl) (by kernel_rfl) (by kernel_rfl)) ?_
 intro W base args ds gs before VF hW aev F4 _;have oJ: ∀(j:Nat) t v,Tryz.f3.params[j]? =some t→args[j]? =some v→Value.okWide Tryz.prog W .any base t v:=VF;have hW':=hW;obtain⟨p,q,hA0,hV,rfl,hfz,hnd⟩:=hW;have hA:DataW.TrodAll enc Tryz.prog W 0 (λ_=>true) true Tryz.f3.params.toList args.toList ds p:=hA0
 rw[Tryz.params3] at hA oJ;obtain⟨rfl,rfl⟩:=trodVars_none hV;have gH: ∀x∈p,x.block<W.heap.size:=λx hx=>by simpa using hW'.lt x (by simpa using hx)
 have hw:=UU.walk Pure.Ay (by kernel_rfl) (vs:=args.toList) (λj t v e1 e2=>oJ j t v (by simpa using e1) (by simpa using e2)) hA
 have hA2:=hA;obtain⟨_,vs0,d0,ds0,p0,q0,_,rfl,_,_,r0⟩:=trodAll_cons hA2;obtain⟨_,Ge,d1,ds1,p1,q1,rfl,rfl,rfl,_,r1⟩:=trodAll_cons r0;obtain⟨_,VX,d2,ds2,p2,q2,rfl,rfl,rfl,_,r2⟩:=trodAll_cons r1;obtain⟨_,vs3,d3,ds3,p3,q3,rfl,rfl,rfl,_,r3⟩:=trodAll_cons r2;obtain⟨_,vs4,d4,ds4,p4,q4,rfl,rfl,rfl,_,r4⟩:=trodAll_cons r3;obtain⟨_,vs5,d5,ds5,p5,q5,rfl,rfl,rfl,_,r5⟩:=trodAll_cons r4;obtain⟨_,rfl,_⟩:=trodAll_nil r5;clear hA0 VF F4;rw[Array.toArray_toList] at hw;refine hw.mono λe W' ⟨he,bel⟩=>?_
 subst he;exact⟨_,rfl,_,_,_,[],_,[],hW',trodAll_mk1 (shut_bool Tryz.underlying4 _),MI (by kernel_rfl) _ _ _ _ (by kernel_rfl) hA bel gH,rfl,bel.frame _,λh=>by cases h⟩
theorem ad5:Rows.helpPlaysRow.holds Tryz.pinned (OpenSpec.ofChange Rows.helpPlaysSpec):=
 OpenClaim.holds_of_wide 3 Tryz.f3 rfl rfl rfl rfl rfl rfl rfl ⟨rfl,rfl,rfl,rfl,rfl⟩ rfl rfl rfl rfl rfl (by kernel_rfl) Tryz.func3 (by kernel_rfl)
  (of_decide_eq_true (by kernel_rfl)) (by unfold Func.isWrapper;first| (rw[if_pos (by decide +kernel)];kernel_rfl)| (rw[if_neg (by decide +kernel)];exact⟨rfl,rfl⟩))
  (λos started H enc _=>lifted os started H enc)
theorem proved:Rows.HelpPlaysSaid:=ad5
end Go.Proofs.YtgfgglponbmgmaaGreat.BD
namespace Go.Proofs.YtgfgglponbmgmaaGreat
theorem helpPlays_holds:Rows.HelpPlaysSaid:=BD.proved
end Go.Proofs.YtgfgglponbmgmaaGreat
end
