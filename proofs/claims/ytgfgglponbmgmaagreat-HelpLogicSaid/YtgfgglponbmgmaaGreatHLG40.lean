/- Texts of the proof of helpLogic_holds, put together by a small program of ours (names shortened, spaces taken out). No condition beyond the given statement. -/
import Derived.Test.YtgfgglponbmgmaaGreatHLG10
import Derived.Test.YtgfgglponbmgmaaGreatHLG11
import Derived.Test.YtgfgglponbmgmaaGreatHLG12
import Derived.Test.YtgfgglponbmgmaaGreatHLG13
import Derived.Test.YtgfgglponbmgmaaGreatHLG14
import Derived.Test.YtgfgglponbmgmaaGreatHLG39
import Derived.Test.YtgfgglponbmgmaaGreatRows
import Derived.WalkKit
import Derived.ProofKit
import Derived.OpenShut
import Derived.ShutString
import Derived.ChangeOld
import Derived.Below
import Derived.SizedLaws
set_option linter.unusedVariables false
set_option linter.unusedSimpArgs false
set_option linter.unnecessarySimpa false
noncomputable section
section
namespace Go.Proofs.YtgfgglponbmgmaaGreat.Fun
open Go Go.RowKit Go.Proofs.YtgfgglponbmgmaaGreatA.Am
set_option maxRecDepth 10000
section
open Go.Proofs.YtgfgglponbmgmaaGreatA
variable {G:ae} {H:aa} {o:aj} {yp xp pp mp fp gp:Nat} {m mP:Y.Mm} {cm:Int} {th:kl} {L:List ku}
structure HC where
 a:Int
 sl:Int
 old:Int
 nw:Int
 ga:Int
 gz:Int
def HC.ot (c:HC):Int:=if c.gz≠0 then 2 else 1
def HC.fin (c:HC):Int:=if c.ot=1 then c.nw else c.old
theorem HC.ot0 (c:HC):c.ot≠0:=by unfold HC.ot;split<;>omega
structure HK (c:HC) (m:Y.Mm):Prop where
 lo:1≤c.a∧c.a≤65536
 ga:m.at c.a=c.ga
 gz:m.at c.ga=c.gz
 sl:m.at (c.a+1)=c.sl
 old:m.at (c.a+2)=c.old
 nw:m.at (c.a+3)=c.nw
 u4:m.used (c.a+4)
 us:m.used c.sl
 n0: ∀j:Int,0≤j→j<5→c.a+j≠c.sl
 n1:c.ga≠c.sl
 n2:c.ga≠c.a+4
 k1:Y.kd c.old≠5
 k2:Y.kd c.nw≠5
def HPh (c:HC)(m:Y.Mm)(ph:Nat):Prop:=
 (ph=0∧m.at (c.a+4)=0∧m.at c.sl=Y.fI 5 c.a)∨(ph=1∧m.at (c.a+4)=c.ot∧m.at c.sl=Y.fI 5 c.a)∨(ph=2∧m.at (c.a+4)=c.ot∧m.at c.sl=c.fin)
structure HO (c:HC) (s:HpS) (ph:Nat):Prop where
 inn:aea s
 dS:s.dS=c.a
 g1:1≤s.next→s.guard=c.ga
 o2:2≤s.next→s.out=c.ot
 p3:3≤s.next→1≤ph
 l5:5≤s.next→s.place=c.sl
 w6:6≤s.next→s.word=c.fin
 d7:s.next=7→ph=2
theorem HO.mono {c:HC}{s:HpS}{ph ph':Nat}(h:HO c s ph)(k:ph≤ph')(k2:ph'≤2):HO c s ph':=⟨h.inn,h.dS,h.g1,h.o2,λe=>by have:=h.p3 e;omega,h.l5,h.w6,λe=>by have:=h.d7 e;omega⟩
theorem HPh.le {c:HC}{ph:Nat}(h:HPh c m ph):ph≤2:=by rcases h with⟨h,_⟩|⟨h,_⟩|⟨h,_⟩<;>omega
theorem HC.ae4 {c:HC}(h:HK c m):Y.kd c.fin≠5:=by
 unfold HC.fin;split
 ·exact h.k2
 ·exact h.k1
theorem ae5 {a:Int}(h:1≤a∧a≤65536):pk (Y.fI 5 a)=5∧pa (Y.fI 5 a)=a∧Y.kd (Y.fI 5 a)=5:=⟨(aeu (by omega) h).1,(aeu (by omega) h).2,Y.ik (by omega) h⟩
theorem HPh.TP {c:HC}{ph:Nat}(k:HK c m)(h:HPh c m ph):km m c.sl=if ph=0 then c.old else c.fin:=by
 obtain⟨e5,ea,_⟩:=ae5 k.lo;unfold km;rcases h with⟨rfl,h1,h2⟩|⟨rfl,h1,h2⟩|⟨rfl,h1,h2⟩
 ·rw[h2,e5,ea,h1];simp[k.old]
 ·rw[h2,e5,ea,h1,k.old,k.nw];simp[HC.fin]
 ·have:pk c.fin≠5:=λe=>HC.ae4 k (ae9 e).1
  rw[h2,if_pos this];rfl
theorem HK.set {c:HC}(k:HK c m){b x:Int}(hb:b=c.a+4∨b=c.sl):HK c (m.set b x):=by
 have n:=k.n0;have e: ∀z,z≠c.a+4→z≠c.sl→(m.set b x).at z=m.at z:=λz h1 h2=>Y.aH (by rcases hb with rfl|rfl<;>assumption)
 have hu: ∀z,m.used z→(m.set b x).used z:=λz hz=>by unfold Y.Mm.used at hz ⊢;rw[Y.vF];exact hz
 have n00:=n 0 (by omega) (by omega)
 have n01:=n 1 (by omega) (by omega)
 have n02:=n 2 (by omega) (by omega)
 have n03:=n 3 (by omega) (by omega)
 exact⟨k.lo,by rw[e _ (by omega) (by omega)];exact k.ga,by rw[e _ k.n2 k.n1];exact k.gz,by rw[e _ (by omega) n01];exact k.sl,by rw[e _ (by omega) n02];exact k.old,by rw[e _ (by omega) n03];exact k.nw,hu _ k.u4,hu _ k.us,k.n0,k.n1,k.n2,k.k1,k.k2⟩
theorem aeo {c:HC}{s:HpS}{ph:Nat}(k:HK c m)(p:HPh c m ph)(h:HO c s ph): ∃ph',ph≤ph'∧HK c (cn s m).2∧HPh c (cn s m).2 ph'∧HO c (cn s m).1 ph':=by
 have pd:=adX h.inn m;have ha:=h.dS;have n4:=k.n0 4 (by omega) (by omega)
 have le:=p.le;rcases ad2 h.inn with e|e|e|e|e|e|e|e
 ·refine⟨ph,Nat.le_refl _,by simp only[cn,e];exact k,by simp only[cn,e];exact p,⟨pd.1,pd.2.1.trans ha,?_,?_,?_,?_,?_,?_⟩⟩<;>simp[cn,e,ha,k.ga]
 ·have hg:=h.g1 (by omega)
  refine⟨ph,Nat.le_refl _,by simp[cn,e];exact k,by simp[cn,e];exact p,⟨pd.1,pd.2.1.trans ha,?_,?_,?_,?_,?_,?_⟩⟩<;>simp[cn,e,hg,k.gz,HC.ot]<;>try(split<;>simp_all)
 ·have hg:=h.g1 (by omega)
  have ho:=h.o2 (by omega)
  rcases p with⟨rfl,h1,h2⟩|⟨rfl,h1,h2⟩|⟨rfl,h1,h2⟩
  ·have ec:(Y.eB m (.cs (s.dS+4) 0 s.out)).2=m.set (c.a+4) c.ot:=by simp only[Y.eB];rw[ha,ho,if_pos ⟨k.u4,h1⟩]
   refine⟨1,by omega,by simp[cn,e];rw[ec];exact k.set (.inl rfl),by simp[cn,e];rw[ec];exact .inr (.inl ⟨rfl,Y.gD k.u4,by rw[Y.aH (λh=>n4 h.symm)];exact h2⟩),⟨pd.1,pd.2.1.trans ha,?_,?_,?_,?_,?_,?_⟩⟩<;>simp[cn,e,hg,ho]
  ·have ec:(Y.eB m (.cs (s.dS+4) 0 s.out)).2=m:=by simp only[Y.eB];rw[ha,if_neg (by rintro⟨_,h⟩;exact c.ot0 (h1.symm.trans h))]
   refine⟨1,by omega,by simp[cn,e];rw[ec];exact k,by simp[cn,e];rw[ec];exact .inr (.inl ⟨rfl,h1,h2⟩),⟨pd.1,pd.2.1.trans ha,?_,?_,?_,?_,?_,?_⟩⟩<;>simp[cn,e,hg,ho]
  ·have ec:(Y.eB m (.cs (s.dS+4) 0 s.out)).2=m:=by simp only[Y.eB];rw[ha,if_neg (by rintro⟨_,h⟩;exact c.ot0 (h1.symm.trans h))]
   refine⟨2,by omega,by simp[cn,e];rw[ec];exact k,by simp[cn,e];rw[ec];exact .inr (.inr ⟨rfl,h1,h2⟩),⟨pd.1,pd.2.1.trans ha,?_,?_,?_,?_,?_,?_⟩⟩<;>simp[cn,e,hg,ho]
 ·have hg:=h.g1 (by omega)
  have hp:=h.p3 (by omega)
  have ho:m.at (c.a+4)=c.ot:=by rcases p with⟨rfl,h1,h2⟩|⟨rfl,h1,h2⟩|⟨rfl,h1,h2⟩<;>first|omega|exact h1
  refine⟨ph,Nat.le_refl _,by simp[cn,e];exact k,by simp[cn,e];exact p,⟨pd.1,pd.2.1.trans ha,?_,?_,?_,?_,?_,?_⟩⟩<;>simp[cn,e,hg,ha,ho]<;>omega
 ·have hg:=h.g1 (by omega)
  have hp:=h.p3 (by omega)
  have ho:=h.o2 (by omega)
  refine⟨ph,Nat.le_refl _,by simp[cn,e];exact k,by simp[cn,e];exact p,⟨pd.1,pd.2.1.trans ha,?_,?_,?_,?_,?_,?_⟩⟩<;>simp[cn,e,hg,ha,ho,k.sl]<;>omega
 ·have hg:=h.g1 (by omega)
  have hp:=h.p3 (by omega)
  have ho:=h.o2 (by omega)
  have hl:=h.l5 (by omega)
  refine⟨ph,Nat.le_refl _,by simp[cn,e];exact k,by simp[cn,e];exact p,⟨pd.1,pd.2.1.trans ha,?_,?_,?_,?_,?_,?_⟩⟩<;>simp[cn,e,hg,ha,ho,hl,k.old,k.nw,HC.fin]<;>omega
 ·have hg:=h.g1 (by omega)
  have hp:=h.p3 (by omega)
  have ho:=h.o2 (by omega)
  have hl:=h.l5 (by omega)
  have hw:=h.w6 (by omega)
  rcases p with⟨rfl,h1,h2⟩|⟨rfl,h1,h2⟩|⟨rfl,h1,h2⟩
  ·omega
  ·have ec:(Y.eB m (.cs s.place (Y.fI 5 s.dS) s.word)).2=m.set c.sl c.fin:=by simp only[Y.eB];rw[ha,hl,hw,if_pos ⟨k.us,h2⟩]
   refine⟨2,by omega,by simp[cn,e];rw[ec];exact k.set (.inr rfl),by simp[cn,e];rw[ec];exact .inr (.inr ⟨rfl,by rw[Y.aH n4];exact h1,Y.gD k.us⟩),⟨pd.1,pd.2.1.trans ha,?_,?_,?_,?_,?_,?_⟩⟩<;>simp[cn,e,hg,ho,hl,hw]
  ·have ec:(Y.eB m (.cs s.place (Y.fI 5 s.dS) s.word)).2=m:=by
    simp only[Y.eB];rw[ha,hl,if_neg (by rintro⟨_,h⟩;exact HC.ae4 k (by rw[←h2,h];exact(ae5 k.lo).2.2))]
   refine⟨2,by omega,by simp[cn,e];rw[ec];exact k,by simp[cn,e];rw[ec];exact .inr (.inr ⟨rfl,h1,h2⟩),⟨pd.1,pd.2.1.trans ha,?_,?_,?_,?_,?_,?_⟩⟩<;>simp[cn,e,hg,ho,hl,hw]
 ·have es:=pd.2.2.2 e;rw[es];exact⟨ph,Nat.le_refl _,k,p,h⟩
theorem Laid.hk {Ga:Y.Ga}{slot node a:Int}{q:List Nat}{m0:Y.Mm}(i:Y.bs Ga m)(h:Laid Ga m0 m slot node q a): ∃c:HC,c.a=a∧c.sl=slot∧c.nw≠c.old∧HK c m∧HPh c m 0:=by
 obtain⟨x,⟨kx,nx⟩,ta⟩:=h.ty;obtain⟨o',p',Ip,f1,f2,e0,e1,e2,e3,out,_⟩:=i.ij _ _ ta;have hb:=i.RR ta;obtain⟨d,pq,j,tn,ej,j5,jd⟩:=Ip.lt;have us:m.used slot:=by rw[ej];exact i.used tn ⟨by omega,jd⟩
 have nn: ∀j':Int,0≤j'→j'<5→a+j'≠slot:=by
  intro j' h0 h5 e;have:=i.cell ta tn (i:=j') (j:=j) ⟨h0,by simp[Y.Rec.size];omega⟩ ⟨by omega,jd⟩ (e.trans ej)
  subst this;rw[tn] at ta;cases ta
 have nc:o'+2≠a+4:=λe=>by
  have:=i.cell ta tn (i:=4) (j:=2) ⟨by omega,by simp[Y.Rec.size]⟩ ⟨by omega,by simp[Y.Rec.size];omega⟩ e.symm
  subst this;rw[tn] at ta;cases ta
 have hz:m.at slot=Y.fI 5 a:=by
  rcases out with⟨_,k⟩|⟨k,_⟩|⟨k,_⟩
  ·exact k h.inst
  ·rw[h.out] at k;omega
  ·rw[h.out] at k;omega
 exact⟨⟨a,slot,m0.at slot,x,o'+2,m.at (o'+2)⟩,rfl,rfl,nx,⟨hb,e0,rfl,e1,e2,e3,i.used ta ⟨by omega,by simp[Y.Rec.size]⟩,us,nn,by show o'+2≠slot;omega,nc,f1.PJ,f2.PJ⟩,.inl ⟨rfl,h.out,hz⟩⟩
structure HLS (H:aa) (o:aj) (yp xp pp mp:Nat) (m1 m:Y.Mm) (cm:Int) (th:kl) (L:List ku) (f0 f1 bx:Nat) (c:HC) (s0 s1:HpS) (ph:Nat):Prop where
 y:YR H o yp xp pp mp m1 m cm th L
 p0:PF H o f0 (-96) (hpc s0)
 p1:PF H o f1 (-97) (hpc s1)
 b:PF H o bx (-99) [pv f0,pv f1]
 k:HK c m1
 ph':HPh c m1 ph
 h0:HO c s0 ph
 h1:HO c s1 ph
def fz (f0 f1:Nat)(z:Int):Nat:=if z=0 then f0 else f1
theorem aex {s:HpS}(h:aea s)(m:Y.Mm):s.next≤(cn s m).1.next∧((cn s m).1.next=7∨(cn s m).1.next=s.next+1):=by
 obtain⟨a,_,b,d⟩:=adX h m;by_cases e:s.next=7
 ·rw[d e];exact⟨Int.le_refl _,.inl e⟩
 ·have:=b e;exact⟨by omega,.inr this⟩
theorem HLS.step {f0 f1 bx:Nat}{c:HC}{s0 s1:HpS}{ph:Nat}{z:Int}(h:HLS H o yp xp pp mp mP m cm th L f0 f1 bx c s0 s1 ph)(hz:z=0∨z=1):aE (run G) 19 [pv (fz f0 f1 z),pv pp] H λv H'=>∃o' m1 iA s0' s1' ph',HLS H' o' yp xp pp mp m1 m iA th L f0 f1 bx c s0' s1' ph'∧ph≤ph'∧s0.next≤s0'.next∧s1.next≤s1'.next∧(z=0→s0'.next=7∨s0'.next=s0.next+1)∧(z=1→s1'.next=7∨s1'.next=s1.next+1):=by
 rcases hz with rfl|rfl
 ·refine(aew h.y h.p0 (by decide) h.h0.inn).mono ?_
  rintro v H' ⟨rfl,o',iA,f,hy,hf⟩;obtain⟨ph',hle,k',p',h'⟩:=aeo h.k h.ph' h.h0;obtain⟨a1,a2⟩:=aex h.h0.inn mP;exact⟨o',_,iA,_,s1,ph',⟨hy,hf,h.p1.fr f (by decide),h.b.fr f (by decide),k',p',h',h.h1.mono hle p'.le⟩,hle,a1,Int.le_refl _,λ_=>a2,λe=>by omega⟩
 ·refine(aew h.y h.p1 (by decide) h.h1.inn).mono ?_
  rintro v H' ⟨rfl,o',iA,f,hy,hf⟩;obtain⟨ph',hle,k',p',h'⟩:=aeo h.k h.ph' h.h1;obtain⟨a1,a2⟩:=aex h.h1.inn mP;exact⟨o',_,iA,s0,_,ph',⟨hy,h.p0.fr f (by decide),hf,h.b.fr f (by decide),k',p',h.h0.mono hle p'.le,h'⟩,hle,Int.le_refl _,a1,λe=>by omega,λ_=>a2⟩
theorem aeC (p:Nat)(z:Int)(hz:z=0∨z=1)(H:aa):aer 2 1 (pv p) (cv z) H=some (.pointer (some ⟨p,z.toNat,none⟩),H):=by
 rcases hz with rfl|rfl<;>rfl
theorem aeP (y:Int):0≤IntKind.u64.wrap y:=by
 show 0≤y%(2^64:Int)
 exact Int.emod_nonneg _ (by decide)
theorem afb (t:TypeId)(a y:Int): ∃z,ai Tryz.prog .shr t (cv a) (.int .u64 (IntKind.u64.wrap y))=some (cv z):=by
 obtain⟨b,hb⟩: ∃b:Nat,IntKind.u64.wrap y=(b:Int):=⟨(IntKind.u64.wrap y).toNat,by have:0≤IntKind.u64.wrap y:=aeP y;omega⟩
 rw[hb];exact⟨_,ZP t a b⟩
theorem ae6 (t:TypeId)(a:Int):ai Tryz.prog .rem t (cv a) (cv 40)=some (cv (a.tmod 40)):=vD _ a 40 (by decide)
theorem ae7 (a b:Nat):aF Tryz.prog 80 [(0,pv a),(1,pv b)]=some (.agg #[pv a,pv b]):=by kernel_rfl
def HLW (c0 dS n:Int)(shut:Bool)(ky xl:Value)(yp bx:Nat)(c:HC)(i last turns:Value)(vs:List Value):Prop:=∃w12 w33 w81 w23 aep aeq:Value,vs=[cv c0,ky,xl,cv dS,.bool shut,cv n,w12,pv yp,cv c.a,w33,cv c.sl,i,w81,pv bx,w23,last,aep,turns,cv c.old,cv c.nw,aeq,.bool (!decide (c.gz=0))]
def adM (c:HC)(ph:Nat):Int:=if ph=0 then c.old else c.fin
def adK (c:HC)(ph:Nat):Int:=if ph=0 then 0 else if c.ot=1 then 1 else 0
def HLI (c0 dS n:Int)(shut:Bool)(ky xl:Value)(yp xp pp mp f0 f1 bx:Nat)(c:HC)(kk:Nat)(vs:List Value)(Hx:aa):Prop:=∃(i:Nat) (ox:aj) (m1 m:Y.Mm) (cm:Int) (th:kl) (L:List ku) (s0 s1:HpS) (ph:Nat),HLW c0 dS n shut ky xl yp bx c (cv i) (cv (adM c ph)) (cv (adK c ph)) vs∧i+kk=30∧HLS Hx ox yp xp pp mp m1 m cm th L f0 f1 bx c s0 s1 ph∧(s0.next=7∨(((i+1)/2:Nat):Int)≤s0.next)∧(s1.next=7∨((i/2:Nat):Int)≤s1.next)
def HLE (c0 dS n:Int)(shut:Bool)(ky xl:Value)(yp xp pp mp f0 f1 bx:Nat)(c:HC)(r:bE×List Value×aa):Prop:=r.1= .exit 0∧∃(ox:aj) (m1 m:Y.Mm) (cm:Int) (th:kl) (L:List ku) (s0 s1:HpS) (ph:Nat) (w:Value),HLW c0 dS n shut ky xl yp bx c w (cv (adM c ph)) (cv (adK c ph)) r.2.1∧HLS r.2.2 ox yp xp pp mp m1 m cm th L f0 f1 bx c s0 s1 ph∧s0.next=7∧s1.next=7
theorem HLS.ld {f0 f1 bx:Nat}{c:HC}{s0 s1:HpS}{ph:Nat}(h:HLS H o yp xp pp mp mP m cm th L f0 f1 bx c s0 s1 ph){z:Int}(hz:z=0∨z=1):aq (.pointer (some ⟨bx,z.toNat,none⟩)) H=some (pv (fz f0 f1 z)):=by
 obtain⟨ty,g,_⟩:=h.b;rcases hz with rfl|rfl
 ·exact ao bx 0 H g
 ·exact ao bx 1 H g
theorem adY {c0 dS n:Int}{shut:Bool}{ky xl:Value}{f0 f1 bx:Nat}{c:HC}(dy:c.nw≠c.old){kk:Nat}{vs:List Value}(h:HLI c0 dS n shut ky xl yp xp pp mp f0 f1 bx c kk vs H):
  Ev (λk=>aet (run KG k) k vs H) λr=>(r.1= .normal∧∃k',k'<kk∧HLI c0 dS n shut ky xl yp xp pp mp f0 f1 bx c k' r.2.1 r.2.2)∨(r.1≠ .normal∧HLE c0 dS n shut ky xl yp xp pp mp f0 f1 bx c r):=by
 obtain⟨i,ox,m1,m,cm,th,L,s0,s1,ph,⟨w12,w33,w81,w23,aep,aeq,rfl⟩,hik,mj,g0,g1⟩:=h;simp -implicitDefEqProofs only[aeA,aed,sS,Nat.reduceAdd];refine Ev.lss (λhi=>?_) (λhi=>?_)
 rotate_left
 ·try simp -implicitDefEqProofs only[sS,Nat.reduceAdd]
  have i30:i=30:=by omega
  subst i30;have a1:=mj.h0.inn.2.1;have a2:=mj.h1.inn.2.1;exact Ev.ret (.inr ⟨by simp,rfl,ox,m1,m,cm,th,L,s0,s1,ph,_,⟨_,_,_,_,_,_,rfl⟩,mj,by simp at g0;omega,by simp at g1;omega⟩)
 have sO:i<30:=by omega
 obtain⟨zs,ezs⟩:=afb 3 n ((i:Int).tmod 40);obtain⟨b0,_,_⟩:=mj.y.ld;simp -implicitDefEqProofs only[ae6,RM,ezs,sS,Nat.reduceAdd];refine Ev.call (mi zs 2 (by omega)) ?_
 rintro v H1 ⟨z,rfl,Ue,hz2,rfl⟩;have hz:z=0∨z=1:=by omega
 have l1:=mj.ld hz;simp -implicitDefEqProofs only[aeC _ _ hz,l1,b0,Nat.add_zero,sS,Nat.reduceAdd];refine Ev.call (mj.step hz) ?_;rintro v H2 ⟨o2,m2,adI,t0,t1,ph2,aeQ,Zc,u0,u1,_,_⟩;obtain⟨d0,_,_⟩:=aeQ.y.ld;have hr:(i:Int).tmod 2=0∨(i:Int).tmod 2=1:=by
  rw[Int.tmod_eq_emod_of_nonneg (by omega)];omega
 have l2:=aeQ.ld hr;simp -implicitDefEqProofs only[b0,jM,adf,aeC _ _ hr,l2,d0,Nat.add_zero,sS,Nat.reduceAdd];refine Ev.call (aeQ.step hr) ?_;rintro v H3 ⟨o3,m3,afc,r0,r1,ph3,aeg,afd,v0,v1,w0,w1⟩;obtain⟨e0,_,_⟩:=aeg.y.ld;simp -implicitDefEqProofs only[e0,Nat.add_zero,sS,Nat.reduceAdd];refine Ev.is (EC aeg.y.jp c.sl) ?_;rw[aeg.ph'.TP aeg.k];have G0:r0.next=7∨(((i+1+1)/2:Nat):Int)≤r0.next:=by
  have a1:=mj.h0.inn.2.1;have a3:=aeg.h0.inn.2.1;rcases hr with e|e
  ·rcases w0 e with q|q<;>omega
  ·rw[Int.tmod_eq_emod_of_nonneg (by omega)] at e
   omega
 have G1:r1.next=7∨(((i+1)/2:Nat):Int)≤r1.next:=by
  have a1:=mj.h1.inn.2.1;have a3:=aeg.h1.inn.2.1;rcases hr with e|e
  ·rw[Int.tmod_eq_emod_of_nonneg (by omega)] at e
   omega
  ·rcases w1 e with q|q<;>omega
 have J2: ∀(w12 w33 w81 w19 aep aeq:Value),Ev (λk=>aej (run KG k) k [cv c0,ky,xl,cv dS,.bool shut,cv n,w12,pv yp,cv c.a,w33,cv c.sl,cv i,w81,pv bx,cv (adM c ph3),w19,aep,cv (adK c ph3),cv c.old,cv c.nw,aeq,.bool (!decide (c.gz=0))] H3) λr=>(r.1= .normal∧∃k',k'<kk∧HLI c0 dS n shut ky xl yp xp pp mp f0 f1 bx c k' r.2.1 r.2.2)∨(r.1≠ .normal∧HLE c0 dS n shut ky xl yp xp pp mp f0 f1 bx c r):=by
  intro w12 w33 w81 w19 aep aeq;have hw:IntKind.i64.wrap ((i:Int)+1)=((i+1:Nat):Int):=by rw[fL (by omega)];rfl
  simp -implicitDefEqProofs only[aez,aec,aey,aeb,hw,sS,Nat.reduceAdd];exact Ev.ret (.inl ⟨rfl,29-i,by omega,i+1,o3,m3,m,afc,th,L,r0,r1,ph3,⟨_,_,_,_,_,_,rfl⟩,by omega,aeg,G0,G1⟩)
 have eL:(if ph3=0 then c.old else c.fin)=adM c ph3:=rfl
 rw[eL]
 try simp -implicitDefEqProofs only[sS,Nat.reduceAdd]
 refine Ev.neq (λhq=>?_) (λhq=>?_)
 ·
  have hp:ph=0∧ph3≠0∧c.ot=1:=by
   unfold adM at hq;by_cases e:ph=0
   ·by_cases e3:ph3=0
    ·rw[if_pos e,if_pos e3] at hq;exact absurd rfl hq
    ·rw[if_pos e,if_neg e3] at hq;refine⟨e,e3,?_⟩;by_cases ec:c.ot=1
     ·exact ec
     ·unfold HC.fin at hq;rw[if_neg ec] at hq;exact absurd rfl hq
   ·rw[if_neg e,if_neg (by omega)] at hq;exact absurd rfl hq
  obtain⟨q1,q2,q3⟩:=hp;have t1:adK c ph=0:=by unfold adK;rw[if_pos q1]
  have t3:adK c ph3=1:=by unfold adK;rw[if_neg q2,if_pos q3]
  have la:adM c ph=c.old:=by unfold adM;rw[if_pos q1]
  have lb:adM c ph3=c.nw:=by unfold adM HC.fin;rw[if_neg q2,if_pos q3]
  have wz:IntKind.i64.wrap ((0:Int)+1)=1:=by decide
  rw[t3,lb] at J2;rw[t1,la,lb]
  try simp -implicitDefEqProofs only[wz,sS,Nat.reduceAdd]
  refine Ev.neq (λh=>absurd rfl h) (λ_=>?_)
  try simp -implicitDefEqProofs only[sS,Nat.reduceAdd]
  simp -implicitDefEqProofs only[Ia,decide_true,Bool.not_true,sS,Nat.reduceAdd];exact J2 _ _ _ _ _ _
 ·have et:adK c ph=adK c ph3:=by
   unfold adK;unfold adM at hq;by_cases e:ph=0
   ·by_cases e3:ph3=0
    ·rw[if_pos e,if_pos e3]
    ·rw[if_pos e,if_neg e3] at hq ⊢;by_cases ec:c.ot=1
     ·unfold HC.fin at hq;rw[if_pos ec] at hq;exact absurd hq dy
     ·rw[if_neg ec]
   ·have e3:ph3≠0:=by omega
    rw[if_neg e,if_neg e3]
  rw[et]
  try simp -implicitDefEqProofs only[sS,Nat.reduceAdd]
  exact J2 _ _ _ _ _ _
theorem ad4 (c0 dS n:Int)(shut:Bool){ky xl:Value}{ks zl:List Int}(hky:sA H ky ks)(hkr:dV H o0 (-1) ky ks)(hl:dV H o0 (-1) xl zl)(TW:zl.length≤maxLen):aE (run KG) 7 [cv c0,ky,xl,cv dS,.bool shut,cv n] H λv H'=>v= .bool true:=by
 refine Ev.up (t:=λk=>F7 (run KG k) k (cv c0) ky xl (cv dS) (.bool shut) (cv n) H) ?_ λk=>ae1 ..
 simp -implicitDefEqProofs only[F7,sS,Nat.reduceAdd];refine Ev.call (X8 c0 hky hkr hl TW) ?_;rintro v H1 ⟨yp,xp,pp,mp,o1,m1,afe,th,L,rfl,f1,hy1,hI,hT⟩;obtain⟨Ga,hG⟩:=hT
 try simp -implicitDefEqProofs only[sS,Nat.reduceAdd]
 refine Ev.call (aa8 hy1 hG.inv hG.root dS shut) ?_;rintro v H2 ⟨o2,node,slot,q,adI,f2,so,hz,rfl,Xe⟩;obtain⟨G2,hG2,_,aeG⟩:=LN hG so hz shut;obtain⟨a,ea⟩: ∃a,a=(jl m1 node slot shut).1:=⟨_,rfl⟩;obtain⟨m,em⟩: ∃m,m=(jl m1 node slot shut).2:=⟨_,rfl⟩;rw[←em, ←ea] at aeG;rw[←em] at Xe hG2;rw[←ea]
 try simp -implicitDefEqProofs only[sS,Nat.reduceAdd]
 refine Ev.eql (λh0=>?_) (λh0=>?_)<;>try simp -implicitDefEqProofs only[sS,Nat.reduceAdd]
 ·refine Ev.is (ade 14 (by decide) H2) ?_
  try simp -implicitDefEqProofs only[sS,Nat.reduceAdd]
  exact Ev.ret rfl
 obtain⟨c,ca,cs,dy,hk,hph⟩:=(aeG h0).hk hG2.inv;obtain⟨b0,_,_⟩:=Xe.ld;have lo:=hk.lo;have wj: ∀{j:Int},0≤j∧j≤8→IntKind.i64.wrap (c.a+j)=c.a+j:=λhj=>fL (by omega)
 have wj1:=wj (j:=1) (by omega)
 have wj0:=wj (j:=0) (by omega)
 have wj2:=wj (j:=2) (by omega)
 have wj3:=wj (j:=3) (by omega)
 simp only[Int.add_zero] at wj0;rw[←ca];simp -implicitDefEqProofs only[b0,wj1,Nat.add_zero,sS,Nat.reduceAdd];refine Ev.is (tM Xe.jp _) ?_;rw[hk.sl];simp -implicitDefEqProofs only[b0,Int.add_zero,wj0,jM,Nat.add_zero,sS,Nat.reduceAdd];refine Ev.is (tM Xe.jp _) ?_;rw[hk.ga];simp -implicitDefEqProofs only[b0,jM,Nat.add_zero,sS,Nat.reduceAdd];refine Ev.is (tM Xe.jp _) ?_;rw[hk.gz];simp -implicitDefEqProofs only[b0,Ia,wj2,jM,Nat.add_zero,sS,Nat.reduceAdd];refine Ev.is (tM Xe.jp _) ?_;rw[hk.old];simp -implicitDefEqProofs only[b0,wj3,jM,Nat.add_zero,sS,Nat.reduceAdd];refine Ev.is (tM Xe.jp _) ?_;rw[hk.nw];simp -implicitDefEqProofs only[b0,jM,Nat.add_zero,sS,Nat.reduceAdd];refine Ev.is (EC Xe.jp c.sl) ?_;rw[hph.TP hk,if_pos rfl]
 try simp -implicitDefEqProofs only[sS,Nat.reduceAdd]
 refine Ev.call (aen c.a) ?_;rintro v H4 ⟨rfl,e4⟩;have f4:Fr H2 o2 H4 (o2.up H2.length (-96)) []:=by rw[e4];exact(Fr.refl _ _ _).new _ _
 have pf4:PF H4 (o2.up H2.length (-96)) H2.length (-96) (hpc ⟨0,c.a,0,0,0,0⟩):=by rw[e4];exact PF.new _
 generalize o2.up H2.length (-96)=o4 at f4 pf4
 obtain⟨f0,ef0⟩: ∃fp,fp=H2.length:=⟨_,rfl⟩;rw[←ef0] at pf4 ⊢
 try simp -implicitDefEqProofs only[sS,Nat.reduceAdd]
 refine Ev.call (aen c.a) ?_;rintro v H5 ⟨rfl,e5⟩;have f5:Fr H4 o4 H5 (o4.up H4.length (-97)) []:=by rw[e5];exact(Fr.refl _ _ _).new _ _
 have pf5:PF H5 (o4.up H4.length (-97)) H4.length (-97) (hpc ⟨0,c.a,0,0,0,0⟩):=by rw[e5];exact PF.new _
 generalize o4.up H4.length (-97)=o5 at f5 pf5
 obtain⟨Xd,ef1⟩: ∃fp,fp=H4.length:=⟨_,rfl⟩;rw[←ef1] at pf5 ⊢;obtain⟨H6,e6⟩: ∃z,z=H5.new ⟨[.pointer none,.pointer none],80,1,false⟩:=⟨_,rfl⟩;have n0:aS H5 80 1 [.pointer none,.pointer none]=(pv H5.length,H6):=by rw[e6];rfl
 have g6:H6.get H5.length=some ⟨[.pointer none,.pointer none],80,1,false⟩:=by rw[e6];exact aL
 have S:bD 2 (pv H5.length) (.agg #[pv f0,pv Xd]) H6=some (undef,H6.put H5.length ⟨[pv f0,pv Xd],80,1,false⟩):=by
  simp[bD,bW,g6,Value.cells,known,aD,dt]
 obtain⟨H7,e7⟩: ∃z,z=H6.put H5.length ⟨[pv f0,pv Xd],80,1,false⟩:=⟨_,rfl⟩;rw[←e7] at S;have f57:Fr H5 o5 H7 (o5.up H5.length (-99)) []:=by
  rw[e7,e6];exact((Fr.refl H5 o5 []).new _ _).put λhh=>by omega
 have pf7:PF H7 (o5.up H5.length (-99)) H5.length (-99) [pv f0,pv Xd]:=⟨_,by rw[e7];exact aG g6,aP⟩
 generalize o5.up H5.length (-99)=o7 at f57 pf7
 simp -implicitDefEqProofs only[ae7,n0,S,sS,Nat.reduceAdd];have hO:HO c ⟨0,c.a,0,0,0,0⟩ 0:=⟨⟨by simp,by simp,by show -9223372036854775808≤c.a;omega,lo.2⟩,rfl,λh=>by simp at h,λh=>by simp at h,λh=>by simp at h,λh=>by simp at h,λh=>by simp at h,λh=>by simp at h⟩
 have Ou:HLS H7 o7 yp xp pp mp m m adI th L f0 Xd H5.length c ⟨0,c.a,0,0,0,0⟩ ⟨0,c.a,0,0,0,0⟩ 0:=⟨((Xe.fr f4 (by simp)).fr f5 (by simp)).fr f57 (by simp),(pf4.fr f5 (by simp)).fr f57 (by simp),pf5.fr f57 (by simp),pf7,hk,hph,hO,hO⟩
 refine Ev.loop (k:=30) (HLI c0 dS n shut ky xl yp xp pp mp f0 Xd H5.length c) (HLE c0 dS n shut ky xl yp xp pp mp f0 Xd H5.length c) ⟨0,o7,m,m,adI,th,L,_,_,0,⟨_,_,_,_,_,_,rfl⟩,rfl,Ou,by simp,by simp⟩ (λkk vs Hx hx=>adY dy hx) ?_
 rintro ex vs Hx ⟨he',oz,mz1,mz,cz,thz,Lz,s0,s1,ph,wz,⟨w12,w33,w81,w23,aep,aeq,rfl⟩,mj,h70,h71⟩;simp only at he' mj;subst he';have I3:=mj.h0.d7 h70;subst I3;have k0:=aeC H5.length 0 (.inl rfl);have k1:=aeC H5.length 1 (.inr rfl);have l0:=mj.ld (z:=0) (.inl rfl);have l1:=mj.ld (z:=1) (.inr rfl);simp -implicitDefEqProofs only[aeB,aee,sS,Nat.reduceAdd];refine Ev.is (ade 14 (by decide) Hx) ?_
 simp -implicitDefEqProofs only[k0,l0,sS,Nat.reduceAdd];refine Ev.is (ad3 (pF.start mj.y mj.p0 (by decide))) ?_
 simp -implicitDefEqProofs only[decide_eq_true h70,k1,l1,sS,Nat.reduceAdd];refine Ev.is (ad3 (pF.start mj.y mj.p1 (by decide))) ?_
 simp -implicitDefEqProofs only[decide_eq_true h71,sS,Nat.reduceAdd];by_cases hg:c.gz=0
 ·have eo:c.ot=1:=by unfold HC.ot;rw[if_neg (by simp[hg])]
  have et:adK c 2=1:=by unfold adK;rw[if_neg (by omega),if_pos eo]
  have el:adM c 2=c.nw:=by unfold adM HC.fin;rw[if_neg (by omega),if_pos eo]
  rw[et,el];simp -implicitDefEqProofs only[hg,decide_true,Bool.not_true,vC,sS,Nat.reduceAdd];exact Ev.ret rfl
 ·have eo:c.ot≠1:=by unfold HC.ot;rw[if_pos hg];omega
  have et:adK c 2=0:=by unfold adK;rw[if_neg (by omega),if_neg eo]
  have el:adM c 2=c.old:=by unfold adM HC.fin;rw[if_neg (by omega),if_neg eo]
  rw[et,el];simp -implicitDefEqProofs only[hg,decide_true,decide_false,Bool.not_false,vC,sS,Nat.reduceAdd];exact Ev.ret rfl
end
end Go.Proofs.YtgfgglponbmgmaaGreat.Fun
namespace Go.Proofs.YtgfgglponbmgmaaGreat.Pure
open Go.RowKit Go.Proofs.YtgfgglponbmgmaaGreatA.Am Fun
set_option maxRecDepth 10000
theorem ad5:Tl Tryz.prog 7 [3,22,22,3,4,3]:=Xg λH args hr hi=>by
 obtain⟨v0,_,rfl,h0,v1,_,rfl,h1,v2,_,rfl,h2,v3,_,rfl,h3,v4,_,rfl,h4,v5,_,rfl,h5,rfl⟩:=hi;obtain⟨c,rfl,_⟩:=h0.int uI;obtain⟨dS,rfl,_⟩:=h3.int uI;obtain⟨n,rfl,_⟩:=h5.int uI;obtain⟨lay,rfl⟩:=h4.bool (show Tryz.prog.underlying 4=some .bool from by kernel_rfl)
 obtain⟨ks,Dh,hk2,_⟩:=lR.abb (show Tryz.prog.underlying 22=some (.slice 3) from by kernel_rfl) uI (by kernel_rfl) h1
 obtain⟨zl,Yi,_,P9⟩:=h2.ints (show Tryz.prog.underlying 22=some (.slice 3) from by kernel_rfl) uI (by kernel_rfl)
 obtain⟨N,⟨v,H1⟩,e1,e2⟩:=ad4 c dS n lay Dh hk2 Yi P9;have e3:=e1 N (Nat.le_refl _);simp only at e2 e3;exact⟨N,H1,by rw[e3,e2]⟩
end Go.Proofs.YtgfgglponbmgmaaGreat.Pure
end
section
namespace Go.Proofs.YtgfgglponbmgmaaGreat.ad6
open Go.ChangeShapes Go.WideShapes Go.ChangeAt Go.RowKit Go.Proofs.YtgfgglponbmgmaaGreatA.Am
theorem own:ownKnob Tryz.prog.godebug=none:=by kernel_rfl
set_option maxRecDepth 100000 in
theorem lifted (os:Os)(started:os.Started)(H:Type)(enc:TypeId×Value→H):
  ReturnsInHanded {} Tryz.checked os 7 .any (Rows.helpLogicSpec.pre6 enc Tryz.prog Tryz.f7 Rows.helpLogicRow.domain false) (Rows.helpLogicSpec.post enc Tryz.prog Tryz.f7 false true false false):=by
 refine returnsInHanded_of_change_sized (C:=Tryz.checked) own started (by kernel_rfl) Tryz.func7
  (ChangeSpec.witness6 (enc:=enc) (C:=Tryz.checked) false ⟨#[],#[.int .i64 0,.slice none 0 0,.slice none 0 0,.int .i64 0,.bool false,.int .i64 0],[]⟩ 8 (by kernel_rfl) (by kernel_rfl) (by kernel_rfl) (by kernel_rfl)) ?_
 intro W base args ds gs before T9 hW adJ EW _;have oC: ∀(j:Nat) t v,Tryz.f7.params[j]? =some t→args[j]? =some v→Value.okWide Tryz.prog W .any base t v:=T9;have hW':=hW;obtain⟨p,q,hA0,hV,rfl,hfz,hnd⟩:=hW;have hA:DataW.TrodAll enc Tryz.prog W 0 (λ_=>true) true Tryz.f7.params.toList args.toList ds p:=hA0
 rw[Tryz.params7] at hA oC;obtain⟨rfl,rfl⟩:=trodVars_none hV;have gB: ∀x∈p,x.block<W.heap.size:=λx hx=>by simpa using hW'.lt x (by simpa using hx)
 have hw:=Tl.walk Pure.ad5 (by kernel_rfl) (vs:=args.toList) (λj t v e1 e2=>oC j t v (by simpa using e1) (by simpa using e2)) hA
 have hA2:=hA;obtain⟨_,vs0,d0,ds0,p0,q0,_,rfl,_,_,r0⟩:=trodAll_cons hA2;obtain⟨_,Fa,d1,ds1,p1,q1,rfl,rfl,rfl,_,r1⟩:=trodAll_cons r0;obtain⟨_,Uo,d2,ds2,p2,q2,rfl,rfl,rfl,_,r2⟩:=trodAll_cons r1;obtain⟨_,vs3,d3,ds3,p3,q3,rfl,rfl,rfl,_,r3⟩:=trodAll_cons r2;obtain⟨_,vs4,d4,ds4,p4,q4,rfl,rfl,rfl,_,r4⟩:=trodAll_cons r3;obtain⟨_,vs5,d5,ds5,p5,q5,rfl,rfl,rfl,_,r5⟩:=trodAll_cons r4;obtain⟨_,rfl,_⟩:=trodAll_nil r5;clear hA0 T9 EW;rw[Array.toArray_toList] at hw;refine hw.mono λe W' ⟨he,bel⟩=>?_
 subst he;exact⟨_,rfl,_,_,_,[],_,[],hW',trodAll_mk1 (shut_bool Tryz.underlying4 _),KV (by kernel_rfl) _ _ _ _ (by kernel_rfl) hA bel gB,rfl,bel.frame _,λh=>by cases h⟩
theorem adh:Rows.helpLogicRow.holds Tryz.pinned (OpenSpec.ofChange Rows.helpLogicSpec):=
 OpenClaim.holds_of_wide 7 Tryz.f7 rfl rfl rfl rfl rfl rfl rfl ⟨rfl,rfl,rfl,rfl,rfl⟩ rfl rfl rfl rfl rfl (by kernel_rfl) Tryz.func7 (by kernel_rfl)
  (of_decide_eq_true (by kernel_rfl)) (by unfold Func.isWrapper;first| (rw[if_pos (by decide +kernel)];kernel_rfl)| (rw[if_neg (by decide +kernel)];exact⟨rfl,rfl⟩))
  (λos started H enc _=>lifted os started H enc)
theorem proved:Rows.HelpLogicSaid:=adh
end Go.Proofs.YtgfgglponbmgmaaGreat.ad6
namespace Go.Proofs.YtgfgglponbmgmaaGreat
theorem helpLogic_holds:Rows.HelpLogicSaid:=ad6.proved
end Go.Proofs.YtgfgglponbmgmaaGreat
end
