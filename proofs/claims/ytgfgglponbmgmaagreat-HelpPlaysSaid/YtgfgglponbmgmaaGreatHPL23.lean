/- Texts of the proof of helpPlays_holds, put together by a small program of ours (names shortened, spaces taken out). No condition beyond the given statement. -/
import Derived.Test.YtgfgglponbmgmaaGreatHPL22
set_option linter.unusedVariables false
set_option linter.unusedSimpArgs false
set_option linter.unnecessarySimpa false
noncomputable section
section
namespace Go.Proofs.YtgfgglponbmgmaaGreatA.Y
variable {G G':Ga} {m:Mm} {c s o:Int} {p:List Nat} {w:Int}
theorem bs.used (h:bs G m){c0 j0:Int}{r0:Rec}(t0:G.ty c0=some r0)(hj:0≤j0∧j0<r0.size):m.used (c0+j0):=by
 have:=h.room _ _ t0
 unfold Mm.used;omega
theorem bs.put {x a c0 j0:Int}{r0:Rec}(h:bs G m)(g:G.le G')(ht:G'.ty=G.ty)(t0:G.ty c0=some r0)(hj:0≤j0∧j0<r0.size)(ea:a=c0+j0)(NB: ∀s,G'.nz s→G.nz s∨s=a)(Tm: ∀c,G'.shut c→G.shut c∨c=c0)(kY: ∀e o,G'.pG e o→G.pG e o∨e=c0)(h0:At G' (m.set a x).at c0 r0)(h1: ∀c r,G.ty c=some r→c≠c0→(G'.inst c→G.inst c)∨At G' (m.set a x).at c r)(h2: ∀e s old new b,G.ty e=some (.eD s old new b)→e≠c0→G.inst e→m.at (e+4)=0→s≠a)(hf: ∀s w,G'.dB s w→oY G' (m.set a x).at s w)(ho: ∀e,G'.ml e→G'.inst e)(hi: ∀e,G'.inst e→∃s old new b,G'.ty e=some (.eD s old new b)):bs G' (m.set a x):=by
 have ua:m.used a:=by rw[ea];exact h.used t0 hj
 refine⟨λa r k=>by rw[wa];exact h.room a r (ht▸k),λa r b q k l=>h.PR a r b q (ht▸k) (ht▸l),?_,hf,ho,hi,?_,by rw[wa,JD];exact h.top⟩
 ·intro c r k;rw[ht] at k;by_cases hc:c=c0
  ·subst hc;rw[t0] at k;cases k;exact h0
  ·rcases h1 c r k hc with qU|hr
   ·refine At.keep g (h.iD c r k) ?_ ?_ ?_ (λl=>(Tm c l).resolve_right hc) (λo l=>(kY c o l).resolve_right hc) qU ?_
    ·intro j j0' j1;refine aH ?_;rintro rfl;exact hc (h.cell k t0 ⟨j0',j1⟩ hj ea)
    ·rintro d p i rfl qT l;refine(NB _ l).resolve_right ?_;intro e;have hs:aQ G (bY c d i) c (p++[i]):=⟨d,p,i,k,qT,rfl,rfl⟩;refine hc (h.cell k t0 (i:=4+d+i) (j:=j0) ⟨by omega,by simp[Rec.size];omega⟩ hj ?_)
     rw[←ea, ←e];unfold bY;omega
    ·rintro t s rfl l;refine(NB _ l).resolve_right ?_;intro e;exact hc (h.cell k t0 (i:=3) (j:=j0) ⟨by omega,by simp[Rec.size]⟩ hj (by omega))
    ·rintro s old new b rfl i e4;exact aH (h2 c s old new b k hc i e4)
   ·exact hr
 ·rw[wa];unfold Mm.used at ua;have:=h.room _ _ t0
  refine⟨λs k=>?_,λc k=>?_,λe o k=>?_⟩
  ·rcases NB s k with l|rfl
   ·exact h.fresh.1 s l
   ·exact ua.2
  ·rcases Tm c k with l|rfl
   ·exact h.fresh.2.1 c l
   ·have:0<r0.size:=by cases r0<;>simp[Rec.size]
    omega
  ·rcases kY e o k with l|rfl
   ·exact h.fresh.2.2 e o l
   ·have:0<r0.size:=by cases r0<;>simp[Rec.size]
    omega
theorem bs.frz {x a c0 j0:Int}{r0:Rec}(h:bs G m)(g:G.le G')(ht:G'.ty=G.ty)(t0:G.ty c0=some r0)(hj:0≤j0∧j0<r0.size)(ea:a=c0+j0)(hs: ∀d q,r0= .inner d q→j0<4+d)(hd: ∀s old new b,r0= .eD s old new b→j0≠4)(ade: ∀e,G'.ml e→G.ml e)(lj: ∀s w,G'.dB s w→G.dB s w):
  ∀s w,G'.dB s w→oY G' (m.set a x).at s w:=by
 intro s w k;have F:=h.dB s w (lj s w k);have e4: ∀e s old new b,G.ty e=some (.eD s old new b)→e+4≠a:=by
  intro e s old new b te e';have:=h.cell te t0 (i:=4) (j:=j0) ⟨by omega,by simp[Rec.size]⟩ hj (by omega)
  subst this;rw[t0] at te;cases te;exact hd s old new b rfl (by omega)
 refine oY.keep g F (aH ?_) ?_ ?_
 ·rintro rfl;obtain⟨o,p,h1,_⟩:=F.fit;obtain⟨d,q,i,g1,g2,g3,g4⟩:=h1;have:=h.cell g1 t0 (i:=4+d+i) (j:=j0) ⟨by omega,by simp[Rec.size];omega⟩ hj (by unfold bY at g3;omega)
  subst this;rw[t0] at g1;cases g1;have:=hs d q rfl
  unfold bY at g3;omega
 ·intro h5;rcases F.now with e|⟨_,new,b,te,_⟩
  ·obtain⟨o,p,_,_,h3⟩:=F.fit;rw[e] at h5;exact absurd h5 h3.Q9
  ·exact aH (e4 _ _ _ _ _ te)
 ·intro e old new b te oe;rw[ht] at te;exact⟨ade e oe,te,λk=>by rw[aH (e4 _ _ _ _ _ te)];exact k⟩
theorem bs.Bp (h:bs G m){e s old new:Int}{b:Nat}(t:G.ty e=some (.eD s old new b)): ∃o p,aQ G s o p∧di G p old∧di G p new:=by
 obtain⟨o,p,h1,h2,h3,_⟩:=h.iD _ _ t;exact⟨o,p,h1,h2,h3⟩
theorem bs.ue (h:bs G m){a c0 j0:Int}{r0:Rec}(t0:G.ty c0=some r0)(hj:0≤j0∧j0<r0.size)(ea:a=c0+j0)(hs: ∀d q,r0= .inner d q→j0<4+d)(k:aQ G s o p):s≠a:=by
 rintro rfl;obtain⟨d,q,i,g1,g2,g3,g4⟩:=k;have:=h.cell g1 t0 (i:=4+d+i) (j:=j0) ⟨by omega,by simp[Rec.size];omega⟩ hj (by unfold bY at g3;omega)
 subst this;rw[t0] at g1;cases g1;have:=hs d q rfl
 unfold bY at g3;omega
theorem bs.free {x a c0 j0:Int}{r0:Rec}(h:bs G m)(t0:G.ty c0=some r0)(hj:0≤j0∧j0<r0.size)(ea:a=c0+j0)(hr:(∃d q,r0= .inner d q∧(j0=3∨(5≤j0∧j0<4+d)))∨(∃t s,r0= .bW t s∧j0=4)):bs G (m.set a x):=by
 have ns: ∀d q,r0= .inner d q→j0<4+d:=by
  rintro d q rfl;rcases hr with⟨d',q',e,k⟩|⟨t,s,e,k⟩
  ·cases e;omega
  ·cases e
 refine h.put (Ga.le.refl G) rfl t0 hj ea (λ_ k=>.inl k) (λ_ k=>.inl k) (λ_ _ k=>.inl k) ?_ (λ_ _ _ _=>.inl id) ?_ (h.frz (Ga.le.refl G) rfl t0 hj ea ns ?_ (λ_ k=>k) λ_ _ k=>k) h.ml h.inst
 ·have R:=h.iD _ _ t0;rcases hr with⟨d,q,rfl,k⟩|⟨t,s,rfl,k⟩
  ·obtain⟨h1,h2,h3,h4,h5⟩:=R;refine⟨h1,by rw[aH (by omega)];exact h2,by rw[aH (by omega)];exact h3,by rw[aH (by omega)];exact h4,λi hi=>?_⟩
   rw[aH (by unfold bY;omega)];exact h5 i hi
  ·obtain⟨o,p,d,h1,h2,h3,h4,h5,h6,h7,h8⟩:=R;exact⟨o,p,d,h1,h2,h3,by rw[aH (by omega)];exact h4,by rw[aH (by omega)];exact h5,by rw[aH (by omega)];exact h6,by rw[aH (by omega)];exact h7,by rw[aH (by omega)];exact h8⟩
 ·intro e s old new b te _ _ _;obtain⟨o,p,k,_⟩:=h.Bp te;exact h.ue t0 hj ea ns k
 ·rintro s old new b rfl;rcases hr with⟨d',q',e,k⟩|⟨t,s,e,k⟩<;>cases e
def Ga.Db (G:Ga)(c:Int):Ga:={G with shut:=λx=>G.shut x∨x=c}
theorem Ga.we (G:Ga)(c:Int):G.le (G.Db c):=⟨λ_ _ h=>h,λ_ h=>h,λ_ h=>.inl h,λ_ _ h=>h,λ_ h=>h,λ_ h=>h,λ_ _ h=>h⟩
theorem bs.guard {d:Nat}{q:List Nat}(h:bs G m)(t0:G.ty c=some (.inner d q)):bs (G.Db c) (m.set (c+2) 1):=by
 have g:=G.we c;have hj:(0:Int)≤2∧(2:Int)<(Rec.inner d q).size:=⟨by omega,by simp[Rec.size];omega⟩
 have ns: ∀d' q',Rec.inner d q= .inner d' q'→(2:Int)<4+d':=λd' q' _=>by omega
 refine h.put g rfl t0 hj rfl (λ_ k=>.inl k) (λ_ k=>k) (λ_ _ k=>.inl k) ?_ (λ_ _ _ _=>.inl id) ?_ (h.frz g rfl t0 hj rfl ns ?_ (λ_ k=>k) λ_ _ k=>k) h.ml h.inst
 ·obtain⟨h1,h2,h3,h4,h5⟩:=h.iD _ _ t0;refine⟨h1,by rw[aH (by omega)];exact h2,.inr ⟨gJ (h.used t0 hj),.inr rfl⟩,?_,λi hi=>?_⟩
  ·rw[aH (by omega)]
   rcases h4 with a|⟨n,a,b⟩
   ·exact .inl a
   ·exact .inr ⟨n,a,b.mono g⟩
  ·rw[aH (by unfold bY;omega)];exact(h5 i hi).mono g id
 ·intro e s old new b te _ _ _;obtain⟨o,p,k,_⟩:=h.Bp te;exact h.ue t0 hj rfl ns k
 ·intro s old new b e;cases e
theorem bs.tell {d:Nat}{q:List Nat}{n:Nat}(h:bs G m)(t0:G.ty c=some (.inner d q))(hn:sJ G c n):bs G (m.set (c+4) (n+1)):=by
 have g:=Ga.le.refl G;have h1':=(h.iD _ _ t0).1;have hj:(0:Int)≤4∧(4:Int)<(Rec.inner d q).size:=⟨by omega,by simp[Rec.size];omega⟩
 have ns: ∀d' q',Rec.inner d q= .inner d' q'→(4:Int)<4+d':=λd' q' e=>by cases e;omega
 refine h.put g rfl t0 hj rfl (λ_ k=>.inl k) (λ_ k=>.inl k) (λ_ _ k=>.inl k) ?_ (λ_ _ _ _=>.inl id) ?_ (h.frz g rfl t0 hj rfl ns ?_ (λ_ k=>k) λ_ _ k=>k) h.ml h.inst
 ·obtain⟨h1,h2,h3,h4,h5⟩:=h.iD _ _ t0;refine⟨h1,by rw[aH (by omega)];exact h2,by rw[aH (by omega)];exact h3,.inr ⟨n,gJ (h.used t0 hj),hn⟩,λi hi=>?_⟩
  rw[aH (by unfold bY;omega)];exact h5 i hi
 ·intro e s old new b te _ _ _;obtain⟨o,p,k,_⟩:=h.Bp te;exact h.ue t0 hj rfl ns k
 ·intro s old new b e;cases e
def Ga.MO (G:Ga)(s:Int):Ga:={G with nz:=λx=>G.nz x∨x=s}
theorem Ga.JE (G:Ga)(s:Int):G.le (G.MO s):=⟨λ_ _ h=>h,λ_ h=>.inl h,λ_ h=>h,λ_ _ h=>h,λ_ h=>h,λ_ h=>h,λ_ _ h=>h⟩
theorem bs.adf {t x:Int}(h:bs G m)(t0:G.ty c=some (.bW t s))(h0:x≠0)(hx: ∀p d,G.ty t=some (.inner d p)→As G t p x):bs (G.MO (c+3)) (m.set (c+3) x):=by
 have g:=G.JE (c+3);have hj:(0:Int)≤3∧(3:Int)<(Rec.bW t s).size:=⟨by omega,by simp[Rec.size]⟩
 have ns: ∀d' q',Rec.bW t s= .inner d' q'→(3:Int)<4+d':=λd' q' e=>by cases e
 refine h.put g rfl t0 hj rfl (λ_ k=>k) (λ_ k=>.inl k) (λ_ _ k=>.inl k) ?_ (λ_ _ _ _=>.inl id) ?_ (h.frz g rfl t0 hj rfl ns ?_ (λ_ k=>k) λ_ _ k=>k) h.ml h.inst
 ·obtain⟨o,p,d,h1,h2,h3,h4,h5,h6,h7,h8⟩:=h.iD _ _ t0;refine⟨o,p,d,h1.mono g,h2,full.mono g h3,by rw[aH (by omega)];exact h4,by rw[aH (by omega)];exact h5,by rw[aH (by omega)];exact h6,by rw[aH (by omega)];exact h7,.inr ?_⟩
  rw[gJ (h.used t0 hj)];exact⟨h0,.inr rfl,(hx p d h2).mono g⟩
 ·intro e s old new b te _ _ _;obtain⟨o,p,k,_⟩:=h.Bp te;exact h.ue t0 hj rfl ns k
 ·intro s old new b e;cases e
def Ga.settle (G:Ga)(e o:Int):Ga:={G with pG:=λx y=>G.pG x y∨(x=e∧y=o)}
theorem Ga.Bq (G:Ga)(e o:Int):G.le (G.settle e o):=⟨λ_ _ h=>h,λ_ h=>h,λ_ h=>h,λ_ _ h=>h,λ_ h=>h,λ_ h=>h,λ_ _ h=>.inl h⟩
theorem bs.adg {e old new x:Int}{b:Nat}(h:bs G m)(t0:G.ty e=some (.eD s old new b))(h0:m.at (e+4)=0)(hi:G.inst e)(hx:(x=1∧G.ml e)∨x=2):bs (G.settle e x) (m.set (e+4) x):=by
 have g:=G.Bq e x;have hj:(0:Int)≤4∧(4:Int)<(Rec.eD s old new b).size:=⟨by omega,by simp[Rec.size]⟩
 have ns: ∀d' q',Rec.eD s old new b= .inner d' q'→(4:Int)<4+d':=λd' q' e=>by cases e
 have ee:=gJ (x:=x) (h.used t0 hj);refine h.put g rfl t0 hj rfl (λ_ k=>.inl k) (λ_ k=>.inl k) (λe' o' k=>?_) ?_ (λ_ _ _ _=>.inl id) ?_ ?_ h.ml h.inst
 ·rcases k with k|⟨k,_⟩
  ·exact .inl k
  ·exact .inr k
 ·obtain⟨o,p,h1,h2,h3,h4,h5,h6,h7,h8,h9⟩:=h.iD _ _ t0;refine⟨o,p,h1.mono g,h2.mono g,h3.mono g,by rw[aH (by omega)];exact h4,by rw[aH (by omega)];exact h5,by rw[aH (by omega)];exact h6,by rw[aH (by omega)];exact h7,?_,?_⟩
  ·unfold YB;rw[ee];rcases hx with⟨rfl,k⟩|rfl
   ·exact .inr (.inl ⟨rfl,hi,k⟩)
   ·exact .inr (.inr ⟨rfl,hi⟩)
  ·intro o';rw[ee];constructor
   ·rintro(k|⟨_,rfl⟩)
    ·have:=(h9 o').1 k
     rw[h0] at this;exact absurd this.1.symm this.2
    ·exact⟨rfl,by omega⟩
   ·rintro⟨rfl,_⟩;exact .inr ⟨rfl,rfl⟩
 ·intro e' s old new b te _ _ _;obtain⟨o,p,k,_⟩:=h.Bp te;exact h.ue t0 hj rfl ns k
 ·intro s' w k;have F:=h.dB s' w k;have e4: ∀e' s old new b,G.ty e'=some (.eD s old new b)→e'≠e→e'+4≠e+4:=λe' _ _ _ _ _ dC=>by omega
  obtain⟨o,p,h1,h2,h3⟩:=F.fit;have ZF:s'≠e+4:=h.ue t0 hj rfl ns h1;refine⟨⟨o,p,h1.mono g,h2,h3.mono g⟩,?_,?_⟩
  ·rw[aH ZF];rcases F.now with a|⟨a,gi,b',te,l⟩
   ·exact .inl a
   ·refine .inr ⟨a,gi,b',te,?_⟩;by_cases hee:aw (m.at s')=e
    ·rw[hee,ee];rcases hx with⟨rfl,kk⟩|rfl
     ·rw[hee,t0] at te;cases te;exact absurd h0 (F.old e _ _ _ t0 kk)
     ·decide
    ·rw[aH (by omega)];exact l
  ·intro e' iw gi b' te oe;by_cases hee:e'=e
   ·subst hee;rw[ee];omega
   ·rw[aH (by omega)];exact F.old e' iw gi b' te oe
theorem bs.wg {x:Int}(h:bs G m)(g:G.le G')(ht:G'.ty=G.ty)(hs:aQ G s o p)(NB: ∀s',G'.nz s'→G.nz s'∨s'=s)(Tm:G'.shut=G.shut)(kY:G'.pG=G.pG)(hw:Bo G' s p x)(h1: ∀c r,G.ty c=some r→c≠o→(G'.inst c→G.inst c)∨At G' (m.set s x).at c r)(h2: ∀e old new b,G.ty e=some (.eD s old new b)→G.inst e→m.at (e+4)≠0)(lj:G'.dB=G.dB)(vx:G'.ml=G.ml)(hz: ∀w,G.dB s w→oY G' (m.set s x).at s w)(ho: ∀e,G'.ml e→G'.inst e)(hi: ∀e,G'.inst e→∃s old new b,G'.ty e=some (.eD s old new b)):bs G' (m.set s x):=by
 obtain⟨d,q,i,t0,N1,es,ep⟩:=id hs;have hj:(0:Int)≤4+d+i∧(4:Int)+d+i<(Rec.inner d q).size:=⟨by omega,by simp[Rec.size];omega⟩
 have ea:s=o+(4+d+i):=by rw[es];unfold bY;omega
 have us:m.used s:=by rw[ea];exact h.used t0 hj
 have e4: ∀e s' old new b,G.ty e=some (.eD s' old new b)→e+4≠s:=by
  intro e s' old new b te e';have:=h.cell te t0 (i:=4) (j:=4+d+i) ⟨by omega,by simp[Rec.size]⟩ hj (by omega)
  subst this;rw[t0] at te;cases te
 refine h.put g ht t0 hj ea NB (λc k=>.inl (Tm▸k)) (λe o k=>.inl (kY▸k)) ?_ h1 ?_ ?_ ho hi
 ·obtain⟨g1,g2,g3,g4,g5⟩:=h.iD _ _ t0;refine⟨g1,by rw[aH (by rw[ea];omega)];exact g2,by rw[aH (by rw[ea];omega),Tm];exact g3,?_,λj zN=>?_⟩
  ·rw[aH (by rw[ea];omega)]
   rcases g4 with a|⟨n,a,b⟩
   ·exact .inl a
   ·exact .inr ⟨n,a,b.mono g⟩
  ·by_cases hji:j=i
   ·subst hji;rw[←es, ←ep,gJ us];exact hw
   ·have dC:bY o d j≠s:=by rw[es];unfold bY;omega
    rw[aH dC];exact(g5 j zN).mono g λk=>(NB _ k).resolve_right dC
 ·rintro e s' old new b te _ ie e0 rfl;exact h2 e old new b te ie e0
 ·intro s' w k;rw[lj] at k;by_cases hss:s'=s
  ·subst hss;exact hz w k
  ·have F:=h.dB s' w k;refine oY.keep g F (aH hss) ?_ ?_
   ·intro h5;rcases F.now with e|⟨_,new,b,te,_⟩
    ·obtain⟨o,p,_,_,h3⟩:=F.fit;rw[e] at h5;exact absurd h5 h3.Q9
    ·exact aH (e4 _ _ _ _ _ te)
   ·intro e old new b te oe;rw[ht] at te;exact⟨vx▸oe,te,λk=>by rw[aH (e4 _ _ _ _ _ te)];exact k⟩
theorem bs.Ra (h:bs G m){a:Int}{r:Rec}(t:G.ty a=some r):1≤a∧a≤65536:=by
 have h1:=h.room a r t;have h2:=h.top;have:1≤r.size:=by cases r<;>simp[Rec.size]
 omega
theorem bs.idle (h:bs G m)(h5:kd (m.at s)≠5): ∀e old new b,G.ty e=some (.eD s old new b)→G.inst e→m.at (e+4)≠0:=by
 intro e old new b te ie e0;obtain⟨o,p,k1,k2,k3,k4,k5,k6,k7,k8,k9⟩:=h.iD _ _ te;rcases k8 with⟨_,k⟩|⟨k,_⟩|⟨k,_⟩
 ·rw[k ie,iE (by omega) (h.Ra te)] at h5;exact h5 rfl
 ·omega
 ·omega
def Ga.install (G:Ga)(e:Int):Ga:={G with inst:=λx=>G.inst x∨x=e}
theorem Ga.hY (G:Ga)(e:Int):G.le (G.install e):=⟨λ_ _ h=>h,λ_ h=>h,λ_ h=>h,λ_ _ h=>h,λ_ h=>.inl h,λ_ h=>h,λ_ _ h=>h⟩
theorem bs.inst1 {e old new:Int}{b:Nat}(h:bs G m)(t0:G.ty e=some (.eD s old new b))(ho:m.at s=old)(hi: ¬G.inst e):bs (G.install e) (m.set s (fm 5 e)):=by
 have g:=G.hY e;obtain⟨o,p,k1,k2,k3,k4,k5,k6,k7,k8,k9⟩:=h.iD _ _ t0;have he:=h.Ra t0;have k5':kd (m.at s)≠5:=by rw[ho];exact k2.Q9
 have z0:m.at (e+4)=0:=by
  rcases k8 with⟨k,_⟩|⟨_,k,_⟩|⟨_,k⟩
  ·exact k
  ·exact absurd k hi
  ·exact absurd k hi
 have nzs:G.nz s:=by
  rcases h.slot k1 with⟨a,_⟩|⟨a,_⟩
  ·rw[ho] at a;exact absurd a k2.U3
  ·exact a
 have us:m.used s:=by
  obtain⟨d,q,j,t1,e1,e2,e3⟩:=k1.lt;rw[e1];exact h.used t1 ⟨by omega,e3⟩
 have Rb: ∀e' s' old new b,G.ty e'=some (.eD s' old new b)→∀j:Int,0≤j→j<5→e'+j≠s:=by
  rintro e' s' old new b te j h0 h5 rfl;obtain⟨d,q,j',t1,e1,e2,e3⟩:=k1.lt;have:=h.cell te t1 (i:=j) (j:=j') ⟨h0,by simp[Rec.size];omega⟩ ⟨by omega,e3⟩ e1
  subst this;rw[t1] at te;cases te
 refine h.wg g rfl k1 (λ_ k=>.inl k) rfl rfl ⟨Hg _ _,.inr ⟨nzs,.inr ⟨iE (by omega) he,?_,old,new,b,?_⟩⟩⟩ ?_ (h.idle k5') rfl rfl ?_ (λe' k=>.inl (h.ml e' k)) ?_
 ·rw[jb (by omega) he];exact .inr rfl
 ·rw[jb (by omega) he];exact t0
 ·intro c r tc _;by_cases hce:c=e
  ·subst hce;rw[t0] at tc;cases tc;refine .inr ⟨o,p,k1.mono g,k2.mono g,k3.mono g,?_,?_,?_,?_,?_,?_⟩
   ·have:=Rb c s old new b t0 0 (by omega) (by omega)
    rw[aH (by simpa using this)];exact k4
   ·rw[aH (Rb c s old new b t0 1 (by omega) (by omega))];exact k5
   ·rw[aH (Rb c s old new b t0 2 (by omega) (by omega))];exact k6
   ·rw[aH (Rb c s old new b t0 3 (by omega) (by omega))];exact k7
   ·refine .inl ⟨?_,λ_=>gJ us⟩
    rw[aH (Rb c s old new b t0 4 (by omega) (by omega))];exact z0
   ·intro o';rw[aH (Rb c s old new b t0 4 (by omega) (by omega))];exact k9 o'
  ·exact .inl λk=>k.resolve_right hce
 ·intro w k;have F:=h.dB s w k;have e1:m.at s=w:=by
   rcases F.now with a|⟨a,_⟩
   ·exact a
   ·exact absurd a k5'
  have ew:old=w:=by rw[←ho,e1]
  obtain⟨o',p',f1,f2,f3⟩:=F.fit;refine⟨⟨o',p',f1.mono g,f2,f3.mono g⟩,.inr ⟨?_,new,b,?_,?_⟩,?_⟩
  ·rw[gJ us];exact iE (by omega) he
  ·rw[gJ us,jb (by omega) he, ←ew];exact t0
  ·rw[gJ us,jb (by omega) he,aH (Rb e s old new b t0 4 (by omega) (by omega)),z0];decide
  ·intro e' iw gi b' te oe;rw[aH (Rb e' s iw gi b' te 4 (by omega) (by omega))]
   exact F.old e' iw gi b' te oe
 ·rintro e' (k|rfl)
  ·exact h.inst e' k
  ·exact⟨s,old,new,b,t0⟩
theorem bs.rel {e old new x:Int}{b:Nat}(h:bs G m)(t0:G.ty e=some (.eD s old new b))(ho:m.at s=fm 5 e)(hx:(G.pG e 1∧x=new)∨(G.pG e 2∧x=old)):bs G (m.set s x):=by
 have g:=Ga.le.refl G;obtain⟨o,p,k1,k2,k3,k4,k5,k6,k7,k8,k9⟩:=h.iD _ _ t0;have he:=h.Ra t0;have nzs:G.nz s:=by
  rcases h.slot k1 with⟨a,_⟩|⟨a,_⟩
  ·have:=iE (k:=5) (by omega) he
   rw[←ho,a,sK] at this;omega
  ·exact a
 have fx:di G p x:=by rcases hx with⟨_,rfl⟩|⟨_,rfl⟩<;>assumption
 have U3:m.at (e+4)≠0:=by
  rcases hx with⟨a,_⟩|⟨a,_⟩
  ·have:=(k9 1).1 a;omega
  ·have:=(k9 2).1 a;omega
 have us:m.used s:=by
  obtain⟨d,q,j,t1,e1,e2,e3⟩:=k1.lt;rw[e1];exact h.used t1 ⟨by omega,e3⟩
 have Rb: ∀e' s' old new b,G.ty e'=some (.eD s' old new b)→∀j:Int,0≤j→j<5→e'+j≠s:=by
  rintro e' s' old new b te j h0 h5 rfl;obtain⟨d,q,j',t1,e1,e2,e3⟩:=k1.lt;have:=h.cell te t1 (i:=j) (j:=j') ⟨h0,by simp[Rec.size];omega⟩ ⟨by omega,e3⟩ e1
  subst this;rw[t1] at te;cases te
 refine h.wg g rfl k1 (λ_ k=>.inl k) rfl rfl ⟨fx.1.1,.inr ⟨nzs,.inl fx⟩⟩ (λ_ _ _ _=>.inl id) ?_ rfl rfl ?_ h.ml h.inst
 ·intro e' iw gi b' te ie e0;obtain⟨o',p',l1,l2,l3,l4,l5,l6,l7,l8,l9⟩:=h.iD _ _ te;rcases l8 with⟨_,k⟩|⟨k,_⟩|⟨k,_⟩
  ·have:=k ie
   rw[ho] at this;have e':=congrArg aw this;rw[jb (by omega) he,jb (by omega) (h.Ra te)] at e'
   subst e';exact U3 e0
  ·omega
  ·omega
 ·intro w k;have F:=h.dB s w k;obtain⟨o',p',f1,f2,f3⟩:=F.fit;have hn:old=w∧x=old:=by
   rcases F.now with a|⟨a,gi,b',te,l⟩
   ·rw[ho] at a;have:=f3.Q9
    rw[←a,iE (by omega) he] at this;exact absurd rfl this
   ·rw[ho,jb (by omega) he] at te l
    rw[t0] at te;cases te;rcases hx with⟨a,_⟩|⟨_,rfl⟩
    ·exact absurd ((k9 1).1 a).1 l
    ·exact⟨rfl,rfl⟩
  refine⟨⟨o',p',f1,f2,f3⟩,.inl ?_,?_⟩
  ·rw[gJ us,hn.2,hn.1]
  ·intro e' iw gi b' te oe;rw[aH (Rb e' s iw gi b' te 4 (by omega) (by omega))]
   exact F.old e' iw gi b' te oe
theorem bs.part {x:Int}(h:bs G m)(hs:aQ G s o p)(h0:m.at s=0)(hx:di G p x):bs (G.MO s) (m.set s x):=by
 have g:=G.JE s;have k5:kd (m.at s)≠5:=by rw[h0,sK];omega
 refine h.wg g rfl hs (λ_ k=>k) rfl rfl ⟨hx.1.1,.inr ⟨.inr rfl,.inl (hx.mono g)⟩⟩ (λ_ _ _ _=>.inl id) (h.idle k5) rfl rfl ?_ h.ml h.inst
 intro w k;have F:=h.dB s w k;obtain⟨o',p',f1,f2,f3⟩:=F.fit;rcases F.now with a|⟨a,_⟩
 ·rw[h0] at a;exact absurd a.symm f3.U3
 ·exact absurd a k5
variable {G G':Ga} {m:Mm} {c s o:Int} {p:List Nat} {w:Int}
theorem bs.grow (h:bs G m)(g:G.le G')(ht:G'.ty=G.ty)(hn:G'.nz=G.nz)(hs:G'.shut=G.shut)(hi:G'.inst=G.inst)(hl:G'.pG=G.pG)(hf: ∀s w,G'.dB s w→oY G' m.at s w)(ho: ∀e,G'.ml e→G.inst e):bs G' m:=by
 refine⟨λa r k=>h.room a r (ht▸k),λa r b q k l=>h.PR a r b q (ht▸k) (ht▸l),λc r k=>?_,hf,λe k=>hi▸ho e k,λe k=>by rw[ht];exact h.inst e (hi▸k),?_,h.top⟩
 ·exact At.keep g (h.iD c r (ht▸k)) (λ_ _ _=>rfl) (λ_ _ _ _ _ l=>hn▸l) (λ_ _ _ l=>hn▸l) (λl=>hs▸l) (λo l=>hl▸l) (λl=>hi▸l) λ_ _ _ _ _ _ _=>rfl
 ·exact⟨λs k=>h.fresh.1 s (hn▸k),λs k=>h.fresh.2.1 s (hs▸k),λe o k=>h.fresh.2.2 e o (hl▸k)⟩
def Ga.PS (G:Ga)(c:Int):Ga:={G with ml:=λe=>G.ml e∨(G.inst e∧∃s old new b p,G.ty e=some (.eD s old new b)∧aQ G s c p)}
theorem Ga.JF (G:Ga)(c:Int):G.le (G.PS c):=⟨λ_ _ h=>h,λ_ h=>h,λ_ h=>h,λ_ _ h=>h,λ_ h=>h,λ_ h=>.inl h,λ_ _ h=>h⟩
theorem bs.opens {d:Nat}{q:List Nat}(h:bs G m)(t0:G.ty c=some (.inner d q))(h0:m.at (c+2)=0):bs (G.PS c) m:=by
 have g:=G.JF c;have nsh: ¬G.shut c:=by
  obtain⟨_,_,h3,_⟩:=h.iD _ _ t0;rcases h3 with⟨_,a⟩|⟨a,_⟩
  ·exact a
  ·omega
 refine h.grow g rfl rfl rfl rfl rfl ?_ ?_
 ·intro s w k;have F:=h.dB s w k;obtain⟨o,p,f1,f2,f3⟩:=F.fit;refine⟨⟨o,p,f1.mono g,f2,f3.mono g⟩,?_,?_⟩
  ·rcases F.now with a|⟨a,new,b,k1,k2⟩
   ·exact .inl a
   ·exact .inr ⟨a,new,b,k1,k2⟩
  ·intro e old new b te oe;rcases oe with k1|⟨_,s',iw,gi,b',p',t',so⟩
   ·exact F.old e old new b te k1
   ·have te':G.ty e=some (.eD s old new b):=te;rw[te'] at t';cases t';have:=(aQ.uniq h f1 so).1
    subst this;exact absurd f2 nsh
 ·rintro e (k|⟨k,_⟩)
  ·exact h.ml e k
  ·exact k
def Ga.freeze (G:Ga)(s w:Int):Ga:={G with dB:=λx y=>G.dB x y∨(x=s∧y=w)}
theorem Ga.Br (G:Ga)(s w:Int):G.le (G.freeze s w):=⟨λ_ _ h=>h,λ_ h=>h,λ_ h=>h,λ_ _ h=>.inl h,λ_ h=>h,λ_ h=>h,λ_ _ h=>h⟩
theorem bs.Tn (h:bs G m)(hs:aQ G s o p)(Tm:G.shut o)(hw:di G p (m.at s)):bs (G.freeze s (m.at s)) m:=by
 have g:=G.Br s (m.at s);refine h.grow g rfl rfl rfl rfl rfl ?_ λe k=>h.ml e k
 rintro s' w (k|⟨rfl,rfl⟩)
 ·have F:=h.dB s' w k;obtain⟨o,p,f1,f2,f3⟩:=F.fit;exact⟨⟨o,p,f1.mono g,f2,f3.mono g⟩,F.now,F.old⟩
 ·exact⟨⟨o,p,hs.mono g,Tm,hw.mono g⟩,.inl rfl,λe old new b te oe=>h.idle hw.Q9 e old new b te (h.ml e oe)⟩
theorem bs.aaX (h:bs G m){w':Int}(a:G.dB s w)(b:G.dB s w'):w=w':=by
 have A:=h.dB s w a;have B:=h.dB s w' b;obtain⟨_,_,_,_,fa⟩:=A.fit;obtain⟨_,_,_,_,fb⟩:=B.fit;rcases A.now with e|⟨e,new,b,t,_⟩<;>rcases B.now with e'|⟨e',gi,b',t',_⟩
 ·rw[←e, ←e']
 ·rw[e] at e';exact absurd e' fa.Q9
 ·rw[e'] at e;exact absurd e fb.Q9
 ·rw[t] at t';cases t';rfl
mutual
theorem sJ.uniq (hf: ∀s w w',G.dB s w→G.dB s w'→w=w'): ∀{c n k},sJ G c n→sJ G c k→n=k
 |_,_,_,.mk h _ a,.mk h' _ b=>by rw[h] at h';cases h';exact gy.uniq hf a b
theorem gy.uniq (hf: ∀s w w',G.dB s w→G.dB s w'→w=w'): ∀{c d i n k},gy G c d i n→gy G c d i k→n=k
 |_,_,_,_,_,.zero,.zero=>rfl
 |_,_,_,_,_,.leaf a f k,b=>by
  cases b with
  |leaf a' f' k'=>rw[gy.uniq hf a a']
  |inner a' f' k' _=>have:=hf _ _ _ f f';subst this;omega
  |bW a' f' k' _ _=>have:=hf _ _ _ f f';subst this;omega
  |empty a' f' k'=>have:=hf _ _ _ f f';subst this;omega
 |_,_,_,_,_,.inner a f k x,b=>by
  cases b with
  |leaf a' f' k'=>have:=hf _ _ _ f f';subst this;omega
  |inner a' f' k' x'=>have:=hf _ _ _ f f';subst this;rw[gy.uniq hf a a',sJ.uniq hf x x']
  |bW a' f' k' _ _=>have:=hf _ _ _ f f';subst this;omega
  |empty a' f' k'=>have:=hf _ _ _ f f';subst this;omega
 |_,_,_,_,_,.bW a f k t x,b=>by
  cases b with
  |leaf a' f' k'=>have:=hf _ _ _ f f';subst this;omega
  |inner a' f' k' x'=>have:=hf _ _ _ f f';subst this;omega
  |bW a' f' k' t' x'=>have:=hf _ _ _ f f';subst this;rw[t] at t';cases t';rw[gy.uniq hf a a',sJ.uniq hf x x']
  |empty a' f' k'=>have:=hf _ _ _ f f';subst this;omega
 |_,_,_,_,_,.empty a f k,b=>by
  cases b with
  |leaf a' f' k'=>have:=hf _ _ _ f f';subst this;omega
  |inner a' f' k' x'=>have:=hf _ _ _ f f';subst this;omega
  |bW a' f' k' _ _=>have:=hf _ _ _ f f';subst this;omega
  |empty a' f' k'=>exact gy.uniq hf a a'
end
def qM (G:Ga)(a:Int)(w:List Int):Rec→Prop
 | .leaf=>w.length=2
 | .empty=>w.length=1
 | .inner d p=>1≤d∧∃n q cs,w=cT n q cs∧cs.length=d∧q.length+1=d∧∀i,i<d→cs.getD i 0=0∨di G (p++[i]) (cs.getD i 0)
 | .bW t s=>∃o p d x,aQ G s o p∧G.ty t=some (.inner d p)∧full G t d∧kd x=3∧aw x=t∧w=ju x (o+2) s
 | .eD s old new _=>∃o p,aQ G s o p∧di G p old∧di G p new∧w=fG (o+2) s old new
theorem qM.size {a:Int}{ws:List Int}{r:Rec}(h:qM G a ws r):ws.length=r.size:=by
 cases r with
 |leaf=>exact h
 |empty=>exact h
 |inner d p=>
  obtain⟨h1,n,q,cs,rfl,h2,h3,_⟩:=h;unfold cT;rw[if_neg (by omega)]
  simp[Rec.size];omega
 |bW t s=>
  obtain⟨o,p,d,x,_,_,_,_,_,rfl⟩:=h;rfl
 |eD s old new b=>
  obtain⟨o,p,_,_,_,rfl⟩:=h;rfl
def Ga.make (G:Ga)(a:Int)(r:Rec)(ws:List Int):Ga:=
 {G with ty:=λx=>if x=a then some r else G.ty x,nz:=λs=>G.nz s∨(∃d p i,r= .inner d p∧i<d∧s=bY a d i∧ws.getD (4+d+i) 0≠0)}
theorem bs.Fg (h:bs G m):G.ty (m.cs.length+1)=none:=by
 cases e:G.ty (m.cs.length+1) with
 |none=>rfl
 |some r=>
  have:=h.room _ _ e
  have:1≤r.size:=by cases r<;>simp[Rec.size]
  omega
theorem Ga.nF {a:Int}{r:Rec}{ws:List Int}(h:G.ty a=none):G.le (G.make a r ws):=by
 refine⟨λx r' k=>?_,λ_ h=>.inl h,λ_ h=>h,λ_ _ h=>h,λ_ h=>h,λ_ h=>h,λ_ _ h=>h⟩
 unfold Ga.make;show(if x=a then some r else G.ty x)=some r'
 by_cases e:x=a
 ·subst e;rw[h] at k;cases k
 ·rw[if_neg e];exact k
theorem bs.make {r:Rec}{ws:List Int}(h:bs G m)(hw:qM G (m.cs.length+1) ws r)(hm:ws.length+m.cs.length≤m.max):
  bs (G.make (m.cs.length+1) r ws) ⟨m.cs++ws,m.max⟩:=by
 have n1:=h.Fg;have g:G.le (G.make (m.cs.length+1) r ws):=Ga.nF n1;have sz:=hw.size;have aaY:(G.make (m.cs.length+1) r ws).ty (m.cs.length+1)=some r:=by simp[Ga.make]
 have told: ∀x q,(G.make (m.cs.length+1) r ws).ty x=some q→x≠m.cs.length+1→G.ty x=some q:=λx q k dC=>by simpa[Ga.make,dC] using k
 have tlt: ∀x q,G.ty x=some q→x≠m.cs.length+1:=λx q k e=>by rw[e,n1] at k;cases k
 have old: ∀b:Int,b≤m.cs.length→(Mm.mk (m.cs++ws) m.max).at b=m.at b:=λb hb=>Hf hb
 have new: ∀j:Nat,j<ws.length→(Mm.mk (m.cs++ws) m.max).at (m.cs.length+1+j)=ws.getD j 0:=λj hj=>PQ hj
 refine⟨?_,?_,?_,?_,h.ml,?_,?_,⟨by simp;omega,h.top.2⟩⟩
 ·intro a q k;by_cases e:a=m.cs.length+1
  ·subst e;rw[aaY] at k;cases k;simp;omega
  ·have:=h.room a q (told a q k e)
   simp;omega
 ·intro a q b q' k l dC;by_cases e:a=m.cs.length+1
  ·have e':b≠m.cs.length+1:=λx=>dC (by rw[e,x])
   have:=h.room b q' (told b q' l e')
   omega
  ·by_cases e':b=m.cs.length+1
   ·have:=h.room a q (told a q k e)
    omega
   ·exact h.PR a q b q' (told a q k e) (told b q' l e') dC
 ·intro c q k;by_cases e:c=m.cs.length+1
  ·subst e;rw[aaY] at k;cases k;have N: ∀j:Nat,j<r.size→(Mm.mk (m.cs++ws) m.max).at (m.cs.length+1+j)=ws.getD j 0:=λj hj=>new j (by omega)
   have nsh: ¬G.shut (m.cs.length+1):=λk=>by have:=h.fresh.2.1 _ k;omega
   have nst: ∀o,¬G.pG (m.cs.length+1) o:=λo k=>by have:=h.fresh.2.2 _ _ k;omega
   have nin: ¬G.inst (m.cs.length+1):=λk=>by
    obtain⟨s,old,new,b,t⟩:=h.inst _ k;rw[n1] at t;cases t
   cases r with
   |leaf=>trivial
   |empty=>trivial
   |inner d p=>
    obtain⟨h1,n,q,cs,rfl,h2,h3,h4⟩:=hw;have hl:cs.length=q.length+1:=by omega
    have W:cT n q cs=[(cs.length:Int),n,0,0,0]++q++cs:=by unfold cT;rw[if_neg (by omega)]
    have s0: ∀j:Nat,j<5→j<(Rec.inner d p).size:=λj hj=>by simp[Rec.size];omega
    refine⟨h1,?_,.inl ⟨?_,nsh⟩,.inl ?_,λi hi=>?_⟩
    ·have e:=N 0 (s0 0 (by omega))
     have v:(cT n q cs).getD 0 0=d:=by rw[W];simp[h2]
     rw[v] at e;simpa using e
    ·have e:=N 2 (s0 2 (by omega))
     have v:(cT n q cs).getD 2 0=0:=by rw[W];simp
     rw[v] at e;simpa using e
    ·have e:=N 4 (s0 4 (by omega))
     have v:(cT n q cs).getD 4 0=0:=by rw[W];simp
     rw[v] at e;simpa using e
    ·have e1:=N (4+d+i) (by simp[Rec.size];omega)
     have e2:(cT n q cs).getD (4+d+i) 0=cs.getD i 0:=by
      rw[W];simp only[List.getD_eq_getElem?_getD];rw[List.getElem?_append_right (by simp;omega)]
      congr 2;simp;omega
     have e3:bY (m.cs.length+1) d i=m.cs.length+1+((4+d+i:Nat):Int):=by unfold bY;omega
     rw[e3,e1,e2];by_cases hz:cs.getD i 0=0
     ·refine⟨by omega,.inl ⟨hz,?_⟩⟩
      rintro(k|⟨d',p',i',e,qT,k,l⟩)
      ·have:=h.fresh.1 _ k;omega
      ·cases e;have:i'=i:=by unfold bY at k;omega
       subst this;exact l (by rw[e2];exact hz)
     ·refine⟨((h4 i hi).resolve_left hz).1.1,.inr ⟨.inr ⟨d,p,i,rfl,hi,e3.symm,by rw[e2];exact hz⟩,.inl ?_⟩⟩
      exact((h4 i hi).resolve_left hz).mono g
   |bW t s=>
    obtain⟨o,p,d,x,k1,k2,k3,k4,k5,rfl⟩:=hw;have a0:=N 0 (by simp[Rec.size]);have a1:=N 1 (by simp[Rec.size]);have a2:=N 2 (by simp[Rec.size]);have a3:=N 3 (by simp[Rec.size])
    simp[ju] at a0 a1 a2 a3;refine⟨o,p,d,k1.mono g,g.ty _ _ k2,full.mono g k3,by rw[ju,a0];exact k4,by rw[ju,a0];exact k5,by rw[ju,a1],by rw[ju,a2],.inl ⟨by rw[ju,a3],?_⟩⟩
    rintro(k|⟨d',p',i',e,_⟩)
    ·have:=h.fresh.1 _ k;omega
    ·cases e
   |eD s iw gi b=>
    obtain⟨o,p,k1,k2,k3,rfl⟩:=hw;have a0:=N 0 (by simp[Rec.size]);have a1:=N 1 (by simp[Rec.size]);have a2:=N 2 (by simp[Rec.size]);have a3:=N 3 (by simp[Rec.size]);have a4:=N 4 (by simp[Rec.size])
    simp[fG] at a0 a1 a2 a3 a4;exact⟨o,p,k1.mono g,k2.mono g,k3.mono g,by rw[fG,a0],by rw[fG,a1],by rw[fG,a2],by rw[fG,a3],.inl ⟨by rw[fG,a4],λk=>absurd k nin⟩,λo=>⟨λk=>absurd k (nst o),λk=>by rw[fG,a4] at k;exact absurd k.1.symm k.2⟩⟩
  ·have tc:=told c q k e;have rm:=h.room c q tc;refine At.keep g (h.iD c q tc) (λj j0 j1=>old _ (by omega)) ?_ ?_ id (λ_=>id) id ?_
   ·rintro d p i rfl hi (k|⟨d',p',i',e',qT,k,l⟩)
    ·exact k
    ·exfalso
     simp[Rec.size] at rm;unfold bY at k;omega
   ·rintro t s rfl (k|⟨d',p',i',e',qT,k,l⟩)
    ·exact k
    ·exfalso
     simp[Rec.size] at rm;unfold bY at k;omega
   ·rintro s iw gi b rfl _ _;obtain⟨o,p,so,_⟩:=h.Bp tc;obtain⟨d,q',j,t1,e1,e2,e3⟩:=so.lt;have:=h.room _ _ t1
    exact old s (by omega)
 ·intro s w k;have F:=h.dB s w k;obtain⟨o,p,f1,_⟩:=F.fit;obtain⟨d,q',j,t1,e1,e2,e3⟩:=f1.lt;have r1:=h.room _ _ t1;refine oY.keep g F (old s (by omega)) ?_ ?_
  ·intro h5;rcases F.now with e|⟨_,new,b,te,_⟩
   ·obtain⟨o,p,_,_,h3⟩:=F.fit;rw[e] at h5;exact absurd h5 h3.Q9
   ·have:=h.room _ _ te
    simp[Rec.size] at this;exact old _ (by omega)
  ·intro e iw gi b te oe;obtain⟨s',o2,n2,b2,t2⟩:=h.inst e (h.ml e oe);have te':=told e _ te (tlt e _ t2);have:=h.room _ _ te'
   simp[Rec.size] at this;exact⟨oe,te',λk=>by rw[old _ (by omega)];exact k⟩
 ·intro e k;obtain⟨s',o2,n2,b2,t2⟩:=h.inst e k;exact⟨s',o2,n2,b2,g.ty _ _ t2⟩
 ·refine⟨λs k=>?_,λc k=>?_,λe o k=>?_⟩
  ·rcases k with k|⟨d,p,i,rfl,hi,rfl,_⟩
   ·have:=h.fresh.1 s k;simp;omega
   ·simp[Rec.size] at sz;unfold bY;simp;omega
  ·have:=h.fresh.2.1 c k;simp;omega
  ·have:=h.fresh.2.2 e o k;simp;omega
variable {G G':Ga} {m:Mm} {c s o:Int} {p:List Nat} {w:Int}
theorem nG: ∀(N:Nat) (L:List Int),L.Nodup→(∀x∈L,1≤x∧x≤N)→L.length≤N
 |0,L,_,h=>by
  cases L with
  |nil=>simp
  |cons x l=>have:=h x (by simp);omega
 |N+1,L,hn,h=>by
  by_cases hm:((N+1:Nat):Int)∈L
  ·have h1:=nG N (L.erase ((N+1:Nat):Int)) (hn.erase _) λx hx=>by
    have h2:=(hn.mem_erase_iff).1 hx;have:=h x h2.2
    have:=h2.1
    omega
   rw[List.length_erase_of_mem hm] at h1;have:0<L.length:=List.length_pos_of_mem hm;omega
  ·have:=nG N L hn λx hx=>by
    have h2:=h x hx;have:x≠((N+1:Nat):Int):=λe=>hm (e▸hx)
    omega
   omega
theorem aQ.in' (h:bs G m)(k:aQ G s o p):1≤s∧s≤m.cs.length:=by
 obtain⟨d,q,j,t,e,h5,hj⟩:=k.lt;have:=h.room _ _ t
 omega
def iO (G:Ga)(P:List Nat→Prop)(L:List Int):Prop:=L.Nodup∧∀s∈L,∃o q,aQ G s o q∧P q
theorem iO.len (h:bs G m){P:List Nat→Prop}{L:List Int}(k:iO G P L):L.length≤m.cs.length:=
 nG _ _ k.1 λx hx=>by
  obtain⟨o,q,so,_⟩:=k.2 x hx;exact so.in' h
theorem iO.app (h:bs G m){P Q R:List Nat→Prop}{L M:List Int}(a:iO G P L)(b:iO G Q M)(hd: ∀q,P q→¬Q q)(hp: ∀q,P q→R q)(hq: ∀q,Q q→R q):iO G R (L++M):=by
 refine⟨List.nodup_append.2 ⟨a.1,b.1,λx hx y hy e=>?_⟩,λs hs=>?_⟩
 ·subst e;obtain⟨o,q,so,pq⟩:=a.2 x hx;obtain⟨o',q',JG,pq'⟩:=b.2 x hy;have:=(aQ.uniq h so JG).2
  subst this;exact hd _ pq pq'
 ·rcases List.mem_append.1 hs with k|k
  ·obtain⟨o,q,so,pq⟩:=a.2 s k;exact⟨o,q,so,hp _ pq⟩
  ·obtain⟨o,q,so,pq⟩:=b.2 s k;exact⟨o,q,so,hq _ pq⟩
theorem jv {p q:List Nat}{i j:Nat}(a:p++[i] <+:q)(b:p++[j] <+:q):i=j:=by
 obtain⟨x,ex⟩:=a;obtain⟨y,ey⟩:=b;rw[←ey] at ex;simp at ex;exact ex.1
mutual
theorem sJ.under (h:bs G m): ∀{c n},sJ G c n→∃d p L,G.ty c=some (.inner d p)∧iO G (λq=>p <+:q) L∧L.length=n
 |c,n,.mk (d:=d) (p:=p) t _ k=>by
  obtain⟨L,h1,h2⟩:=gy.under h k _ t (Nat.le_refl _);exact⟨d,p,L,t,⟨h1.1,λs hs=>by
   obtain⟨o,q,so,j,_,pq⟩:=h1.2 s hs;exact⟨o,q,so,(List.prefix_append _ _).trans pq⟩⟩,h2⟩
theorem gy.under (h:bs G m): ∀{c d i n},gy G c d i n→∀p,G.ty c=some (.inner d p)→i≤d→∃L,iO G (λq=>∃j,j<i∧p++[j] <+:q) L∧L.length=n
 |_,_,_,_,.zero=>λ_ _ _=>⟨[],⟨List.nodup_nil,λs hs=>by cases hs⟩,rfl⟩
 |c,d,_,_,.leaf (i:=i) (n:=n) (w:=w) a f k=>by
  intro p t hi;obtain⟨L,h1,h2⟩:=gy.under h a _ t (by omega)
  have so:aQ G (bY c d i) c (p++[i]):=⟨d,p,i,t,by omega,rfl,rfl⟩
  have u:iO G (λq=>q=p++[i]) [bY c d i]:=⟨by simp,λs hs=>by
   rw[List.mem_singleton] at hs;subst hs;exact⟨c,_,so,rfl⟩⟩
  refine⟨L++[bY c d i],iO.app h h1 u ?_ ?_ ?_,by simp[h2]⟩
  ·rintro q ⟨j,hj,pj⟩ rfl;have:=jv pj (List.prefix_refl _)
   omega
  ·rintro q ⟨j,hj,pj⟩;exact⟨j,by omega,pj⟩
  ·rintro q rfl;exact⟨i,by omega,List.prefix_refl _⟩
 |c,d,_,_,.inner (i:=i) (n:=n) (w:=w) (k:=k) a f hk hc=>by
  intro p t hi;obtain⟨L,h1,h2⟩:=gy.under h a _ t (by omega)
  obtain⟨d',p',L',t',u',l'⟩:=sJ.under h hc;have so:aQ G (bY c d i) c (p++[i]):=⟨d,p,i,t,by omega,rfl,rfl⟩
  have ep:p'=p++[i]:=by
   obtain⟨o,q,JG,_,fw⟩:=(h.dB _ _ f).fit;have:=(aQ.uniq h so JG).2
   rcases fw.2 with x|x|⟨_,d2,t2,_⟩|⟨x,_⟩
   ·omega
   ·omega
   ·rw[t'] at t2;cases t2;exact this.symm
   ·omega
  subst ep;refine⟨L++L',iO.app h h1 u' ?_ ?_ ?_,by simp[h2,l']⟩
  ·rintro q ⟨j,hj,pj⟩ pi;have:=jv pj pi
   omega
  ·rintro q ⟨j,hj,pj⟩;exact⟨j,by omega,pj⟩
  ·intro q pi;exact⟨i,by omega,pi⟩
 |c,d,_,_,.bW (i:=i) (n:=n) (w:=w) (k:=k) (c':=c') (s:=s') a f hk ht hc=>by
  intro p t hi;obtain⟨L,h1,h2⟩:=gy.under h a _ t (by omega)
  obtain⟨d',p',L',t',u',l'⟩:=sJ.under h hc;have so:aQ G (bY c d i) c (p++[i]):=⟨d,p,i,t,by omega,rfl,rfl⟩
  have ep:p'=p++[i]:=by
   obtain⟨o,q,JG,_,fw⟩:=(h.dB _ _ f).fit;have:=(aQ.uniq h so JG).2
   rcases fw.2 with x|x|⟨x,_⟩|⟨_,c2,s2,o2,d2,t2,_,t3,_⟩
   ·omega
   ·omega
   ·omega
   ·rw[ht] at t2;cases t2;rw[t'] at t3;cases t3;exact this.symm
  subst ep;refine⟨L++L',iO.app h h1 u' ?_ ?_ ?_,by simp[h2,l']⟩
  ·rintro q ⟨j,hj,pj⟩ pi;have:=jv pj pi
   omega
  ·rintro q ⟨j,hj,pj⟩;exact⟨j,by omega,pj⟩
  ·intro q pi;exact⟨i,by omega,pi⟩
 |c,d,_,_,.empty (i:=i) (n:=n) (w:=w) a f hk=>by
  intro p t hi;obtain⟨L,h1,h2⟩:=gy.under h a _ t (by omega)
  exact⟨L,⟨h1.1,λs hs=>by
   obtain⟨o,q,so,j,hj,pq⟩:=h1.2 s hs;exact⟨o,q,so,j,by omega,pq⟩⟩,h2⟩
end
theorem sJ.le (h:bs G m){n:Nat}(k:sJ G c n):n≤16384:=by
 obtain⟨d,p,L,_,u,e⟩:=k.under h;have:=u.len h
 have:=h.top
 omega
theorem gy.le (h:bs G m){d i n:Nat}(t:G.ty c=some (.inner d p))(hi:i≤d)(k:gy G c d i n):n≤16384:=by
 obtain⟨L,u,e⟩:=k.under h _ t hi;have:=u.len h
 have:=h.top
 omega
structure oh (t:Nat) (G G':Ga):Prop where
 le:G.le G'
 own: ∀e s old new,G.ty e=some (.eD s old new t)→G'.inst e→G.inst e
theorem oh.refl (t:Nat)(G:Ga):oh t G G:=⟨Ga.le.refl G,λ_ _ _ _ _ h=>h⟩
theorem oh.trans {t:Nat}{A B C:Ga}(h:oh t A B)(k:oh t B C):oh t A C:=
 ⟨h.le.trans k.le,λe s old new a b=>h.own e s old new a (k.own e s old new (h.le.ty _ _ a) b)⟩
structure Own (t:Nat) (G G':Ga):Prop where
 le:G.le G'
 own: ∀e s old new u,u≠t→G.ty e=some (.eD s old new u)→G'.inst e→G.inst e
theorem Own.of {t:Nat}(h:G.le G')(k: ∀e,G'.inst e→G.inst e):Own t G G':=⟨h,λe _ _ _ _ _ _ x=>k e x⟩
theorem Own.refl (t:Nat)(G:Ga):Own t G G:=Own.of (Ga.le.refl G) λ_ h=>h
theorem Own.let' {t u:Nat}(h:Own t G G')(hu:u≠t):oh u G G':=⟨h.le,λe s old new a b=>h.own e s old new u hu a b⟩
theorem Own.trans {t:Nat}{A B C:Ga}(h:Own t A B)(k:Own t B C):Own t A C:=
 ⟨h.le.trans k.le,λe s old new u hu a b=>h.own e s old new u hu a (k.own e s old new u hu (h.le.ty _ _ a) b)⟩
variable {α β:Type} {t:Nat}
def Safe (t:Nat):Nat→Tr α→Ga→(Nat→α→Ga→Prop)→Prop
 |0,_,_,_=>True
 |n+1,.ret a,G,Q=>∀G' m,oh t G G'→bs G' m→Q (n+1) a G'
 |n+1,.ask q k,G,Q=>∀G' m,oh t G G'→bs G' m→∃PT,bs PT (db m q).2∧Own t G' PT∧Safe t n (k (db m q).1) PT Q
 |n+1,.off k,G,Q=>Safe t (n+1) (k false) G Q
 |n+1,.rc _ u,G,Q=>Safe t (n+1) u G Q
 |n+1,.ld u,G,Q=>Safe t (n+1) u G Q
variable {n:Nat}
theorem Safe.zero {u:Tr α}{Q:Nat→α→Ga→Prop}:Safe t 0 u G Q:=by cases u<;>trivial
theorem Safe.mono {u:Tr α}{Q:Nat→α→Ga→Prop}(h:Safe t n u G Q)(g:oh t G G'):Safe t n u G' Q:=by
 induction u generalizing G G' n with
 |ret a=>cases n with
  |zero=>trivial
  |succ n=>exact λG2 m k=>h G2 m (g.trans k)
 |ask q k ih=>cases n with
  |zero=>trivial
  |succ n=>exact λG2 m k=>h G2 m (g.trans k)
 |off k ih=>cases n with
  |zero=>trivial
  |succ n=>exact ih false h g
 |rc r u ih=>cases n with
  |zero=>trivial
  |succ n=>exact ih h g
 |ld u ih=>cases n with
  |zero=>trivial
  |succ n=>exact ih h g
theorem Safe.wk {u:Tr α}{Q R:Nat→α→Ga→Prop}(h:Safe t n u G Q)(k: ∀j a G',j≤n→G.le G'→Q j a G'→R j a G'):Safe t n u G R:=by
 induction u generalizing G n with
 |ret a=>cases n with
  |zero=>trivial
  |succ n=>exact λG2 m l i=>k _ a G2 (Nat.le_refl _) l.le (h G2 m l i)
 |ask q f ih=>cases n with
  |zero=>trivial
  |succ n=>
   intro G2 m l i;obtain⟨G3,h1,h2,h3⟩:=h G2 m l i;exact⟨G3,h1,h2,ih _ h3 λj a G' hj g=>k j a G' (by omega) (l.le.trans (h2.le.trans g))⟩
 |off f ih=>cases n with
  |zero=>trivial
  |succ n=>exact ih false h k
 |rc r u ih=>cases n with
  |zero=>trivial
  |succ n=>exact ih h k
 |ld u ih=>cases n with
  |zero=>trivial
  |succ n=>exact ih h k
theorem Safe.real {u:Tr α}{Q:Nat→α→Ga→Prop}(h: ∀G' m,oh t G G'→bs G' m→Safe t n u G' Q):Safe t n u G Q:=by
 induction u generalizing G n with
 |ret a=>cases n with
  |zero=>trivial
  |succ n=>exact λG2 m l i=>h G2 m l i G2 m (oh.refl _ _) i
 |ask q k ih=>cases n with
  |zero=>trivial
  |succ n=>exact λG2 m l i=>h G2 m l i G2 m (oh.refl _ _) i
 |off k ih=>cases n with
  |zero=>trivial
  |succ n=>exact ih false h
 |rc r u ih=>cases n with
  |zero=>trivial
  |succ n=>exact ih h
 |ld u ih=>cases n with
  |zero=>trivial
  |succ n=>exact ih h
theorem Safe.bind {u:Tr α}{f:α→Tr β}{Q:Nat→β→Ga→Prop}(h:Safe t n u G λj a G'=>Safe t j (f a) G' Q):Safe t n (u >>= f) G Q:=by
 induction u generalizing G n with
 |ret a=>cases n with
  |zero=>exact Safe.zero
  |succ n=>exact Safe.real h
 |ask q k ih=>cases n with
  |zero=>trivial
  |succ n=>
   intro G2 m l i;obtain⟨G3,h1,h2,h3⟩:=h G2 m l i;exact⟨G3,h1,h2,ih _ h3⟩
 |off k ih=>cases n with
  |zero=>trivial
  |succ n=>exact ih false h
 |rc r u ih=>cases n with
  |zero=>trivial
  |succ n=>exact ih h
 |ld u ih=>cases n with
  |zero=>trivial
  |succ n=>exact ih h
theorem Safe.ret {a:α}{Q:Nat→α→Ga→Prop}(h: ∀G' m,oh t G G'→bs G' m→n≠0→Q n a G'):Safe t n (.ret a) G Q:=by
 cases n with
 |zero=>trivial
 |succ n=>exact λG2 m l i=>h G2 m l i (by omega)
theorem Safe.ask {q:Ask}{k:Int→Tr α}{Q:Nat→α→Ga→Prop}(h: ∀G' m j,oh t G G'→bs G' m→j+1=n→∃PT,bs PT (db m q).2∧Own t G' PT∧Safe t j (k (db m q).1) PT Q):Safe t n (.ask q k) G Q:=by
 cases n with
 |zero=>trivial
 |succ n=>exact λG2 m l i=>h G2 m n l i rfl
theorem Safe.step {u:Tr α}{Q:Nat→α→Ga→Prop}{q:Ask}{k:Int→Tr α}(h:Safe t (n+1) u G Q)(e:norm u= .ask q k)(i:bs G m): ∃G',bs G' (db m q).2∧Own t G G'∧Safe t n (k (db m q).1) G' Q:=by
 induction u with
 |ret a=>simp[norm] at e
 |ask q' k' ih=>simp only[norm] at e;cases e;exact h G m (oh.refl _ _) i
 |off f ih=>exact ih false h e
 |rc r u ih=>exact ih h e
 |ld u ih=>exact ih h e
end Go.Proofs.YtgfgglponbmgmaaGreatA.Y
end
