/- Texts of the proof of helpPlays_holds, put together by a small program of ours (names shortened, spaces taken out). No condition beyond the given statement. -/
import Derived.Test.YtgfgglponbmgmaaGreatHPL23
set_option linter.unusedVariables false
set_option linter.unusedSimpArgs false
set_option linter.unnecessarySimpa false
noncomputable section
section
namespace Go.Proofs.YtgfgglponbmgmaaGreatA.Y
variable {G:Ga} {c s o:Int} {p:List Nat} {α β:Type} {t n:Nat} {f:Int→Tr α} {Q:Nat→α→Ga→Prop}
theorem kQ {a:Int}(h: ∀G' m j,oh t G G'→bs G' m→j+1=n→Safe t j (f (m.at a)) G' Q):Safe t n (rd a >>= f) G Q:=
 Safe.ask (q:=.rd a) (k:=f) λG' m j l i e=>⟨G',i,Own.refl _ _,h G' m j l i e⟩
theorem U4 (so:aQ G s o p)(h: ∀G' m j,oh t G G'→bs G' m→j+1=n→(G.shut o→di G' p (m.at s)→G'.dB s (m.at s))→Safe t j (f (m.at s)) G' Q):Safe t n (rd s >>= f) G Q:=by
 refine Safe.ask (q:=.rd s) (k:=f) λG' m j l i e=>?_
 by_cases hc:G'.shut o∧di G' p (m.at s)
 ·have g:=G'.Br s (m.at s);have JG:=so.mono l.le;have i':=i.Tn JG hc.1 hc.2;refine⟨G'.freeze s (m.at s),i',Own.of g λ_ k=>k,h _ m j (l.trans ⟨g,λ_ _ _ _ _ k=>k⟩) i' e λ_ _=>.inr ⟨rfl,rfl⟩⟩
 ·exact⟨G',i,Own.refl _ _,h G' m j l i e λa b=>absurd ⟨l.le.shut _ a,b⟩ hc⟩
theorem U5 {d:Nat}{q:List Nat}(t0:G.ty c=some (.inner d q))(h: ∀G' m j,oh t G G'→bs G' m→j+1=n→(m.at (c+2)=0→∀e s old new b p,G.inst e→G.ty e=some (.eD s old new b)→aQ G s c p→G'.ml e)→Safe t j (f (m.at (c+2))) G' Q):Safe t n (rd (c+2) >>= f) G Q:=by
 refine Safe.ask (q:=.rd (c+2)) (k:=f) λG' m j l i e=>?_
 by_cases hc:m.at (c+2)=0
 ·have g:=G'.JF c;have i':=i.opens (l.le.ty _ _ t0) hc;exact⟨G'.PS c,i',Own.of g λ_ k=>k,h _ m j (l.trans ⟨g,λ_ _ _ _ _ k=>k⟩) i' e λ_ e s old new b p k1 k2 k3=>.inr ⟨l.le.inst _ k1,s,old,new,b,p,l.le.ty _ _ k2,k3.mono l.le⟩⟩
 ·exact⟨G',i,Own.refl _ _,h G' m j l i e λk=>absurd k hc⟩
theorem oh.of {A B:Ga}(g:A.le B)(k: ∀e,B.inst e→A.inst e):oh t A B:=⟨g,λe _ _ _ _ x=>k e x⟩
theorem aaZ {d:Nat}{q:List Nat}(t0:G.ty c=some (.inner d q))(h: ∀G' z j,oh t G G'→j+1=n→G'.shut c→Safe t j (f z) G' Q):Safe t n (wt (c+2) 1 >>= f) G Q:=
 Safe.ask (q:=.wr (c+2) 1) (k:=f) λG' m j l i e=>
  ⟨G'.Db c,i.guard (l.le.ty _ _ t0),Own.of (G'.we c) λ_ k=>k,h _ 0 j (l.trans (.of (G'.we c) λ_ k=>k)) e (.inr rfl)⟩
theorem aa0 {d k:Nat}{q:List Nat}(t0:G.ty c=some (.inner d q))(hk:sJ G c k)(h: ∀G' z j,oh t G G'→j+1=n→Safe t j (f z) G' Q):Safe t n (wt (c+4) (k+1) >>= f) G Q:=
 Safe.ask (q:=.wr (c+4) (k+1)) (k:=f) λG' m j l i e=>
  ⟨G',i.tell (l.le.ty _ _ t0) (hk.mono l.le),Own.refl _ _,h _ 0 j l e⟩
theorem aa1 {d:Nat}{q:List Nat}{x i:Int}(t0:G.ty c=some (.inner d q))(hi:1≤i∧i<d)(h: ∀G' z j,oh t G G'→j+1=n→Safe t j (f z) G' Q):Safe t n (wt (c+4+i) x >>= f) G Q:=
 Safe.ask (q:=.wr (c+4+i) x) (k:=f) λG' m j l iv e=>
  ⟨G',iv.free (l.le.ty _ _ t0) (j0:=4+i) ⟨by omega,by simp[Rec.size];omega⟩ (by omega) (.inl ⟨d,q,rfl,.inr (by omega)⟩),Own.refl _ _,h _ 0 j l e⟩
theorem aa2 {x j0:Int}{r:Rec}(t0:G.ty c=some r)(hr:(∃d q,r= .inner d q∧j0=3)∨(∃t s,r= .bW t s∧j0=4))(h: ∀G' z j,oh t G G'→j+1=n→Safe t j (f z) G' Q):Safe t n (ad (c+j0) x >>= f) G Q:=by
 refine Safe.ask (q:=.ad (c+j0) x) (k:=f) λG' m j l i e=>?_
 have t1:=l.le.ty _ _ t0;have hj:0≤j0∧j0<r.size:=by
  rcases hr with⟨d,q,rfl,rfl⟩|⟨t,s,rfl,rfl⟩
  ·exact⟨by omega,by simp[Rec.size];omega⟩
  ·exact⟨by omega,by simp[Rec.size]⟩
 have u:=i.used t1 hj;simp only[db,u,if_true];refine⟨G',i.free t1 hj rfl ?_,Own.refl _ _,h _ _ j l e⟩;rcases hr with⟨d,q,rfl,rfl⟩|⟨t,s,rfl,rfl⟩
 ·exact .inl ⟨d,q,rfl,.inl rfl⟩
 ·exact .inr ⟨t,s,rfl,rfl⟩
theorem MP {a old x:Int}(h1: ∀G' m j,oh t G G'→bs G' m→j+1=n→m.used a→m.at a=old→∃PT,bs PT (m.set a x)∧Own t G' PT∧Safe t j (f 1) PT Q)(h0: ∀G' m j,oh t G G'→bs G' m→j+1=n→¬(m.used a∧m.at a=old)→Safe t j (f 0) G' Q):Safe t n (cs a old x >>= f) G Q:=by
 refine Safe.ask (q:=.cs a old x) (k:=f) λG' m j l i e=>?_
 simp only[db];by_cases hc:m.used a∧m.at a=old
 ·simp only[hc,and_self,if_true];exact h1 G' m j l i e hc.1 hc.2
 ·simp only[hc,if_false];exact⟨G',i,Own.refl _ _,h0 G' m j l i e hc⟩
theorem bs.aa3 {m:Mm}(h:bs G m){e old new:Int}{b:Nat}(t0:G.ty e=some (.eD s old new b))(hn:m.at (e+4)≠0): ∃y,(y=1∨y=2)∧G.pG e y:=by
 obtain⟨o,p,h1,h2,h3,h4,h5,h6,h7,h8,h9⟩:=h.iD _ _ t0;refine⟨m.at (e+4),?_,(h9 _).2 ⟨rfl,hn⟩⟩;rcases h8 with⟨a,_⟩|⟨a,_⟩|⟨a,_⟩
 ·exact absurd a hn
 ·exact .inl a
 ·exact .inr a
theorem U6 {e old new x:Int}{b:Nat}(t0:G.ty e=some (.eD s old new b))(hi:G.inst e)(hx:(x=1∧G.ml e)∨x=2)(h: ∀G' z j,oh t G G'→j+1=n→(∃y,(y=1∨y=2)∧G'.pG e y)→Safe t j (f z) G' Q):Safe t n (cs (e+4) 0 x >>= f) G Q:=by
 refine MP (λG' m j l i e' _ hz=>?_) λG' m j l i e' hc=>?_
 ·have t1:=l.le.ty _ _ t0;have g:=G'.Bq e x;refine⟨G'.settle e x,i.adg t1 hz (l.le.inst _ hi) (hx.imp_left λk=>⟨k.1,l.le.ml _ k.2⟩),Own.of g λ_ k=>k,h _ _ j (l.trans (.of g λ_ k=>k)) e' ⟨x,?_,.inr ⟨rfl,rfl⟩⟩⟩
  rcases hx with⟨k,_⟩|k
  ·exact .inl k
  ·exact .inr k
 ·have t1:=l.le.ty _ _ t0;have u:=i.used t1 (j0:=4) ⟨by omega,by simp[Rec.size]⟩
  exact h _ _ j l e' (i.aa3 t1 λk=>hc ⟨u,k⟩)
theorem JH {e old new x:Int}{b:Nat}(t0:G.ty e=some (.eD s old new b))(hx:(G.pG e 1∧x=new)∨(G.pG e 2∧x=old))(h: ∀G' z j,oh t G G'→j+1=n→Safe t j (f z) G' Q):Safe t n (cs s (fm 5 e) x >>= f) G Q:=by
 refine MP (λG' m j l i e' _ hz=>?_) λG' m j l i e' hc=>h _ _ j l e'
 exact⟨G',i.rel (l.le.ty _ _ t0) hz (hx.imp (λk=>⟨l.le.pG _ _ k.1,k.2⟩) λk=>⟨l.le.pG _ _ k.1,k.2⟩),Own.refl _ _,h _ _ j l e'⟩
theorem aa4 {e old new:Int}(t0:G.ty e=some (.eD s old new t))(hn: ¬G.inst e)(h: ∀G' z j,G.le G'→j+1=n→(z=1∧G'.inst e)∨z=0→Safe t j (f z) G' Q):Safe t n (cs s old (fm 5 e) >>= f) G Q:=by
 refine MP (λG' m j l i e' _ hz=>?_) λG' m j l i e' hc=>h _ _ j l.le e' (.inr rfl)
 have t1:=l.le.ty _ _ t0;have g:=G'.hY e;refine⟨G'.install e,i.inst1 t1 hz λk=>hn (l.own e s old new t0 k),⟨g,λe2 s2 aej aek u hu k1 k2=>?_⟩,h _ _ j (l.le.trans g) e' (.inl ⟨rfl,.inr rfl⟩)⟩
 rcases k2 with k|rfl
 ·exact k
 ·rw[t1] at k1;cases k1;exact absurd rfl hu
theorem aa5 {x r:Int}{d:Nat}(t0:G.ty c=some (.bW r s))(tr:G.ty r=some (.inner d p))(h0:x≠0)(hx:As G r p x)(h: ∀G' z j,oh t G G'→j+1=n→G'.nz (c+3)→Safe t j (f z) G' Q):Safe t n (cs (c+3) 0 x >>= f) G Q:=by
 refine MP (λG' m j l i e' _ hz=>?_) λG' m j l i e' hc=>?_
 ·have t1:=l.le.ty _ _ t0;have g:=G'.JE (c+3);refine⟨G'.MO (c+3),i.adf t1 h0 ?_,Own.of g λ_ k=>k,h _ _ j (l.trans (.of g λ_ k=>k)) e' (.inr rfl)⟩
  intro p' d' k;rw[l.le.ty _ _ tr] at k;cases k;exact hx.mono l.le
 ·have t1:=l.le.ty _ _ t0;have u:=i.used t1 (j0:=3) ⟨by omega,by simp[Rec.size]⟩
  refine h _ _ j l e' ?_;obtain⟨o,p,d,_,_,_,_,_,_,_,k⟩:=i.iD _ _ t1;rcases k with⟨a,_⟩|⟨_,a,_⟩
  ·exact absurd ⟨u,a⟩ hc
  ·exact a
theorem aa6 {x:Int}(so:aQ G s o p)(hx:di G p x)(h: ∀G' z j,oh t G G'→j+1=n→G'.nz s→Safe t j (f z) G' Q):Safe t n (cs s 0 x >>= f) G Q:=by
 refine MP (λG' m j l i e' _ hz=>?_) λG' m j l i e' hc=>?_
 ·have g:=G'.JE s;exact⟨G'.MO s,i.part (so.mono l.le) hz (hx.mono l.le),Own.of g λ_ k=>k,h _ _ j (l.trans (.of g λ_ k=>k)) e' (.inr rfl)⟩
 ·have JG:=so.mono l.le;refine h _ _ j l e' ?_;have u:m.used s:=JG.in' i;rcases i.slot JG with⟨a,_⟩|⟨a,_⟩
  ·exact absurd ⟨u,a⟩ hc
  ·exact a
theorem aa7 {x old:Int}(h: ∀G' z j,oh t G G'→j+1=n→Safe t j (f z) G' Q):Safe t n (cs 0 old x >>= f) G Q:=
 MP (λ_ _ _ _ _ _ u _=>by unfold Mm.used at u;omega) λG' m j l i e' hc=>h _ _ j l e'
theorem qM.mono {G':Ga}{a:Int}{ws:List Int}{r:Rec}(g:G.le G')(h:qM G a ws r)(b:Int):qM G' b ws r:=by
 cases r with
 |leaf=>exact h
 |empty=>exact h
 |inner d p=>
  obtain⟨h1,n,q,cs,h2,h3,h4,h5⟩:=h;exact⟨h1,n,q,cs,h2,h3,h4,λi hi=>(h5 i hi).imp_right (·.mono g)⟩
 |bW t s=>
  obtain⟨o,p,d,x,h1,h2,h3,h4,h5,h6⟩:=h;exact⟨o,p,d,x,h1.mono g,g.ty _ _ h2,full.mono g h3,h4,h5,h6⟩
 |eD s old new b=>
  obtain⟨o,p,h1,h2,h3,h4⟩:=h;exact⟨o,p,h1.mono g,h2.mono g,h3.mono g,h4⟩
structure Made (G:Ga) (a:Int) (r:Rec) (ws:List Int):Prop where
 pos:1≤a∧a≤65536
 ty:G.ty a=some r
 nin: ¬G.inst a
 nz: ∀d p i,r= .inner d p→i<d→ws.getD (4+d+i) 0≠0→G.nz (bY a d i)
theorem Dc {ws:List Int}{r:Rec}(hw:qM G 0 ws r)(h0: ∀G' j,oh t G G'→j+1=n→Safe t j (f 0) G' Q)(h1: ∀G' z j,oh t G G'→j+1=n→Made G' z r ws→Safe t j (f z) G' Q):Safe t n (mk ws >>= f) G Q:=by
 refine Safe.ask (q:=.mk ws) (k:=f) λG' m j l i e=>?_
 simp only[db];by_cases hc:ws=[]∨ws.length+m.cs.length>m.max
 ·simp only[hc,if_true];exact⟨G',i,Own.refl _ _,h0 G' j l e⟩
 ·simp only[hc,if_false];have hw':=hw.mono l.le (m.cs.length+1);have i':=i.make hw' (by omega)
  have g:G'.le (G'.make (m.cs.length+1) r ws):=Ga.nF i.Fg;refine⟨_,i',Own.of g λ_ k=>k,h1 _ _ j (l.trans (.of g λ_ k=>k)) e ⟨?_,by simp[Ga.make],?_,?_⟩⟩
  ·have:=i.top;have:=hw'.size
   have:1≤r.size:=by cases r<;>simp[Rec.size]
   omega
  ·intro k;obtain⟨s,old,new,b,t1⟩:=i.inst _ k;rw[i.Fg] at t1;cases t1
  ·rintro d p k rfl hk hz;exact .inr ⟨d,p,k,rfl,hk,rfl,hz⟩
theorem aa8 (h: ∀G' j,oh t G G'→j+1=n→Safe t j (f 0) G' Q):Safe t n (mk [] >>= f) G Q:=by
 refine Safe.ask (q:=.mk []) (k:=f) λG' m j l i e=>?_
 simp only[db,true_or,if_true];exact⟨G',i,Own.refl _ _,h G' j l e⟩
variable {G:Ga} {c s o w:Int} {p:List Nat} {α β:Type} {t n:Nat}
theorem aQ.ty (h:aQ G s o p): ∃d q,G.ty o=some (.inner d q):=by
 obtain⟨d,q,i,k,_⟩:=h;exact⟨d,q,k⟩
theorem Hh {e old new:Int}{b:Nat}(t0:G.ty e=some (.eD s old new b))(hi:G.inst e):Safe t n (uH e) G λ_ _ _=>True:=by
 unfold uH;refine kQ λG1 m1 j1 l1 i1 _=>?_
 have t1:=l1.le.ty _ _ t0;obtain⟨o,p,so,fo,fn,e0,_⟩:=i1.iD _ _ t1;rw[e0];obtain⟨d,q,to'⟩:=so.ty;refine U5 to' λG2 m2 j2 l2 i2 _ ho=>?_
 have t2:=l2.le.ty _ _ t1;have hi2:=l2.le.inst _ (l1.le.inst _ hi);refine U6 t2 hi2 ?_ λG3 z3 j3 l3 _ st=>?_
 ·by_cases hg:m2.at (o+2)=0
  ·exact .inl ⟨by simp[hg],ho hg e s old new b p (l1.le.inst _ hi) t1 so⟩
  ·exact .inr (by simp[hg])
 obtain⟨y,hy,sy⟩:=st;refine kQ λG4 m4 j4 l4 i4 _=>?_
 have t4:=l4.le.ty _ _ (l3.le.ty _ _ t2);obtain⟨_,_,_,_,_,_,_,_,_,_,k9⟩:=i4.iD _ _ t4;have ey:=((k9 y).1 (l4.le.pG _ _ sy)).1;rw[ey];refine kQ λG5 m5 j5 l5 i5 _=>?_
 have t5:=l5.le.ty _ _ t4;obtain⟨_,_,_,_,_,_,e1,_⟩:=i5.iD _ _ t5;rw[e1];have sy5:=l5.le.pG _ _ (l4.le.pG _ _ sy);rcases hy with rfl|rfl
 ·simp only[if_true];refine kQ λG6 m6 j6 l6 i6 _=>?_
  have t6:=l6.le.ty _ _ t5;obtain⟨_,_,_,_,_,_,_,_,e3,_⟩:=i6.iD _ _ t6;rw[e3];exact JH t6 (.inl ⟨l6.le.pG _ _ sy5,rfl⟩) λG7 z7 j7 _ _=>Safe.ret λ_ _ _ _ _=>trivial
 ·rw[if_neg (by decide)]
  refine kQ λG6 m6 j6 l6 i6 _=>?_
  have t6:=l6.le.ty _ _ t5;obtain⟨_,_,_,_,_,_,_,e2,_⟩:=i6.iD _ _ t6;rw[e2];exact JH t6 (.inr ⟨l6.le.pG _ _ sy5,rfl⟩) λG7 z7 j7 _ _=>Safe.ret λ_ _ _ _ _=>trivial
def U7 (G0:Ga)(s o:Int)(p:List Nat):Nat→Int→Ga→Prop:=λ_ w G'=>(w=0∧¬G0.nz s)∨(di G' p w∧(G0.shut o→G'.dB s w))
theorem zm (G0:Ga): ∀(f:Nat) {G:Ga} {n:Nat} {w:Int},n≤f→G0.le G→aQ G0 s o p→
  (w=0∧¬G0.nz s∨(di G p w∧(G0.shut o→G.dB s w))∨(kd w=5∧G.inst (aw w)∧∃old new b,G.ty (aw w)=some (.eD s old new b)))→Safe t n (sE s f w) G (U7 G0 s o p)
 |0,_,n,_,hn,_,_,_=>by
  have:n=0:=by omega
  subst this;exact Safe.zero
 |f+1,G,n,w,hn,g0,so,hw=>by
  unfold sE;cases n with
  |zero=>exact Safe.zero
  |succ n=>
   show Safe t (n+1) (if !false=true∧kd w=5 then _ else _) G _
   rcases hw with⟨rfl,h⟩|⟨h1,h2⟩|⟨h1,h2,old,new,b,h3⟩
   ·rw[if_neg (by rw[sK];omega)]
    exact Safe.ret λ_ _ _ _ _=>.inl ⟨rfl,h⟩
   ·rw[if_neg (λk=>h1.Q9 k.2)]
    exact Safe.ret λG' m l _ _=>.inr ⟨h1.mono l.le,λk=>l.le.dB _ _ (h2 k)⟩
   ·rw[if_pos ⟨rfl,h1⟩];refine Safe.bind ((Hh h3 h2).wk λj _ G1 hj g1 _=>?_)
    have U8:=(so.mono g0).mono g1;refine U4 U8 λG2 m2 j2 l2 i2 ej hf=>?_
    refine zm G0 f (by omega) (g0.trans (g1.trans l2.le)) so ?_
    rcases i2.slot (U8.mono l2.le) with⟨a,b⟩|⟨a,b|⟨b1,b2,b3⟩⟩
    ·exact .inl ⟨a,λk=>b ((g0.trans (g1.trans l2.le)).nz _ k)⟩
    ·exact .inr (.inl ⟨b,λk=>hf (g1.shut _ (g0.shut _ k)) b⟩)
    ·exact .inr (.inr ⟨b1,b2,b3⟩)
theorem zn {f:Nat}(hn:n≤f+1)(so:aQ G s o p):Safe t n (kK f s) G λj w G'=>j<n∧U7 G s o p j w G':=by
 unfold kK;refine U4 so λG2 m2 j2 l2 i2 ej hf=>?_
 refine(zm G f (by omega) l2.le so ?_).wk λj w G' hj _ h=>⟨by omega,h⟩
 rcases i2.slot (so.mono l2.le) with⟨a,b⟩|⟨a,b|⟨b1,b2,b3⟩⟩
 ·exact .inl ⟨a,λk=>b (l2.le.nz _ k)⟩
 ·exact .inr (.inl ⟨b,λk=>hf k b⟩)
 ·exact .inr (.inr ⟨b1,b2,b3⟩)
theorem jw {x:Int}(h: -9223372036854775808≤x∧x<9223372036854775808):wr x=x:=by unfold wr;omega
theorem qN {g old x:Int}(so:aQ G s o p)(hg:g=o+2)(fo:di G p old)(fx:di G p x):Safe t n (sF g s old x) G λ_ _ _=>True:=by
 subst hg;unfold sF;refine Dc (r:=.eD s old x t) ⟨o,p,so,fo,fx,rfl⟩ (λG1 j1 _ _=>?_) λG1 a j1 l1 _ ma=>?_
 ·rw[if_pos (by omega)];exact Safe.ret λ_ _ _ _ _=>trivial
 obtain⟨pa,t1,ni,_⟩:=ma;rw[if_neg (by omega)]
 cases j1 with
 |zero=>exact Safe.zero
 |succ j1=>
  show Safe t (j1+1) _ G1 _
  refine aa4 t1 ni λG2 z j2 g2 _ hz=>?_
  rcases hz with⟨rfl,hi⟩|rfl
  ·rw[if_neg (by decide)]
   have t2:=g2.ty _ _ t1;have U9:=(so.mono l1.le).mono g2;obtain⟨d,q,to'⟩:=U9.ty;refine U5 to' λG3 m3 j3 l3 i3 _ ho=>?_
   have t3:=l3.le.ty _ _ t2;rw[jw (x:=a+4) (by omega)]
   refine U6 t3 (l3.le.inst _ hi) ?_ λG4 z4 j4 l4 _ st=>?_
   ·by_cases hg:m3.at (o+2)=0
    ·exact .inl ⟨by simp[hg],ho hg a s old x t p hi t2 U9⟩
    ·exact .inr (by simp[hg])
   obtain⟨y,hy,sy⟩:=st;refine kQ λG5 m5 j5 l5 i5 _=>?_
   have t5:=l5.le.ty _ _ (l4.le.ty _ _ t3);obtain⟨_,_,_,_,_,_,_,_,_,_,k9⟩:=i5.iD _ _ t5;have ey:=((k9 y).1 (l5.le.pG _ _ sy)).1;rw[ey];have sy5:=l5.le.pG _ _ sy;rcases hy with rfl|rfl
   ·simp only[if_true];exact JH t5 (.inl ⟨sy5,rfl⟩) λG7 z7 j7 _ _=>Safe.ret λ_ _ _ _ _=>trivial
   ·rw[if_neg (by decide)]
    exact JH t5 (.inr ⟨sy5,rfl⟩) λG7 z7 j7 _ _=>Safe.ret λ_ _ _ _ _=>trivial
  ·rw[if_pos (by decide)]
   exact Safe.ret λ_ _ _ _ _=>trivial
def Reads:Tr α→Prop
 | .ret _=>True
 | .ask q k=>(∃a,q= .rd a)∧∀z,Reads (k z)
 | .off k=>∀b,Reads (k b)
 | .rc _ u=>Reads u
 | .ld u=>Reads u
theorem Reads.safe {u:Tr α}(h:Reads u):Safe t n u G λ_ _ _=>True:=by
 induction u generalizing G n with
 |ret a=>exact Safe.ret λ_ _ _ _ _=>trivial
 |ask q k ih=>
  obtain⟨⟨a,rfl⟩,hk⟩:=h;exact Safe.ask λG' m j l i _=>⟨G',i,Own.refl _ _,ih _ (hk _)⟩
 |off k ih=>cases n with
  |zero=>exact Safe.zero
  |succ n=>exact ih false (h false)
 |rc r u ih=>cases n with
  |zero=>exact Safe.zero
  |succ n=>exact ih h
 |ld u ih=>cases n with
  |zero=>exact Safe.zero
  |succ n=>exact ih h
theorem Reads.bind {u:Tr α}{f:α→Tr β}(h:Reads u)(k: ∀a,Reads (f a)):Reads (u >>= f):=by
 induction u with
 |ret a=>exact k a
 |ask q g ih=>exact⟨h.1,λz=>ih z (h.2 z)⟩
 |off g ih=>exact λb=>ih b (h b)
 |rc r u ih=>exact ih h
 |ld u ih=>exact ih h
theorem Reads.rd (a:Int):Reads (Y.rd a):=⟨⟨a,rfl⟩,λ_=>trivial⟩
theorem Reads.pure (a:α):Reads (Pure.pure a:Tr α):=trivial
theorem Reads.off:Reads g9:=λ_=>trivial
theorem Reads.ite {P:Prop}[Decidable P]{u v:Tr α}(h:Reads u)(k:Reads v):Reads (if P then u else v):=by
 split
 ·exact h
 ·exact k
theorem Fh (s:Int):Reads (sD s):=by
 unfold sD;exact(Reads.rd _).bind λw=>.ite (.pure _) ((Reads.rd _).bind λo=>.ite (.rd _) (.rd _))
mutual
theorem mF: ∀(f:Nat) (a fr to:Int) (out:PL),Reads (gO f a fr to out)
 |0,_,_,_,_=>trivial
 |f+1,a,fr,to,out=>by
  unfold gO;exact(Reads.rd _).bind λd=>iP f _ _ _ _ _ _ _
theorem iP: ∀(f:Nat) (a d fr to i lv:Int) (out:PL),Reads (da f a d fr to i lv out)
 |0,_,_,_,_,_,_,_=>trivial
 |f+1,a,d,fr,to,i,lv,out=>by
  unfold da;refine .ite (.pure _) (.ite (.pure _) (Reads.off.bind λb=>.ite (.pure _) ((Fh _).bind λw=>.ite (.ite ((Reads.rd _).bind λk=>(Reads.rd _).bind λv=>iP f _ _ _ _ _ _ _) (iP f _ _ _ _ _ _ _)) (.ite ?_ (iP f _ _ _ _ _ _ _)))))
  refine Reads.bind (.ite ((Reads.rd _).bind λt=>.pure _) (.pure _)) λx=>(Reads.rd _).bind λz=>?_
  exact Reads.bind (.ite (mF f _ _ _ _) (.pure _)) λo=>iP f _ _ _ _ _ _ _
end
variable {G:Ga} {c s o w:Int} {p:List Nat} {α β:Type} {t n:Nat}
theorem pH {part whole N:Int}(hp:0≤part∧part≤whole)(hw:0<whole): ∀(b:Nat) (q r:Int),0≤r∧r<whole→q*whole+r=part*(N/2^b)→ct part whole N b q r*whole≤part*N
 |0,q,r,hr,h=>by
  unfold ct;simp at h;omega
 |b+1,q,r,hr,h=>by
  unfold ct;have e2:N/2^b=2*(N/2^(b+1))+N/2^b%2:=by
   have:N/2^(b+1)=N/2^b/2:=by
    rw[Int.pow_succ,Int.ediv_ediv_of_nonneg (Int.le_of_lt (Int.pow_pos (by decide)))]
   rw[this];omega
  have qA: ∀(q1 r1:Int),(q1=if r≥whole-r then 2*q+1 else 2*q)→(r1=if r≥whole-r then r-(whole-r) else r+r)→0≤r1∧r1<whole∧q1*whole+r1=2*(part*(N/2^(b+1))):=by
   rintro q1 r1 rfl rfl;rw[←h];split
   ·refine⟨by omega,by omega,?_⟩
    rw[Int.add_mul,Int.mul_assoc];omega
   ·refine⟨by omega,by omega,?_⟩
    rw[Int.mul_assoc];omega
  have key: ∀q1 r1:Int,0≤r1∧r1<whole∧q1*whole+r1=2*(part*(N/2^(b+1)))→
    (if N/2^b%2=0 then ct part whole N b q1 r1 else if part≥whole-r1 then ct part whole N b (q1+1) (r1-(whole-part)) else ct part whole N b q1 (r1+part))*whole≤part*N:=by
   rintro q1 r1 ⟨a1,a2,a3⟩;split
   ·next hb=>
    refine pH hp hw b _ _ ⟨a1,a2⟩ ?_;rw[a3,e2,hb,Int.add_zero, ←Int.mul_assoc, ←Int.mul_assoc,Int.mul_comm 2 part]
   ·next hb=>
    have ZK:N/2^b%2=1:=by omega
    have e3:part*(N/2^b)=2*(part*(N/2^(b+1)))+part:=by
     rw[e2,ZK,Int.mul_add,Int.mul_one, ←Int.mul_assoc, ←Int.mul_assoc,Int.mul_comm 2 part]
    split
    ·refine pH hp hw b _ _ ⟨by omega,by omega⟩ ?_
     rw[e3, ←a3,Int.add_mul,Int.one_mul];omega
    ·refine pH hp hw b _ _ ⟨by omega,by omega⟩ ?_
     rw[e3, ←a3];omega
  exact key _ _ (qA _ _ rfl rfl)
theorem Bt {part whole N:Int}(hp:0≤part)(hw:0≤whole)(hN:1≤N):kC part whole N≤N:=by
 unfold kC;split
 ·omega
 ·next h=>
  have hw':0<whole:=by omega
  have key: ∀q:Int,0≤q∧q≤whole→ct q whole N 17 0 0≤N:=by
   intro q hq;have:=pH (part:=q) (whole:=whole) (N:=N) hq hw' 17 0 0 ⟨by omega,by omega⟩ (by
    have:N/2^17=0:=Int.ediv_eq_zero_of_lt (by omega) (by omega)
    rw[this];simp)
   have h2:q*N≤whole*N:=Int.mul_le_mul_of_nonneg_right hq.2 (by omega)
   have h3:ct q whole N 17 0 0*whole≤N*whole:=by rw[Int.mul_comm N];omega
   exact Int.le_of_mul_le_mul_right h3 hw'
  exact key _ (by split<;>omega)
theorem pI {part whole N:Int}: ∀(b:Nat) (q r:Int),0≤q→0≤ct part whole N b q r
 |0,q,r,h=>h
 |b+1,q,r,h=>by
  have key: ∀q1 r1:Int,0≤q1→0≤(if N/2^b%2=0 then ct part whole N b q1 r1 else if part≥whole-r1 then ct part whole N b (q1+1) (r1-(whole-part)) else ct part whole N b q1 (r1+part)):=by
   intro q1 r1 h1;split
   ·exact pI b _ _ h1
   ·split
    ·exact pI b _ _ (by omega)
    ·exact pI b _ _ h1
  unfold ct;exact key _ _ (by split<;>omega)
theorem MQ {part whole N:Int}:0≤kC part whole N:=by
 unfold kC;split
 ·omega
 ·exact pI _ _ _ (by omega)
theorem Fi {first last k m:Int}(hm:2≤m):iC first last k m≤m:=by
 unfold iC;split
 ·omega
 ·have g: ∀a b,0≤vl a b:=by intro a b;unfold vl;split<;>omega
  have:=Bt (g first k) (g first last) (N:=m-1) (by omega)
  omega
theorem zo {a k hi:Int}: ∀(f:Nat) (i:Int) {G:Ga} {n:Nat},i≤hi→1≤hi→Safe t n (mS a k f i) G λ_ z _=>1≤z∧z≤hi
 |0,i,_,_,h,h1=>Safe.ret λ_ _ _ _ _=>⟨by omega,by omega⟩
 |f+1,i,G,n,h,h1=>by
  unfold mS;split
  ·cases n with
   |zero=>exact Safe.zero
   |succ n=>
    show Safe t (n+1) (rd (lM a i) >>= _) G _
    refine kQ λG1 m1 j1 _ _ _=>?_
    split
    ·exact Safe.ret λ_ _ _ _ _=>⟨by omega,by omega⟩
    ·exact zo f (i-1) (by omega) h1
  ·exact Safe.ret λ_ _ _ _ _=>⟨by omega,by omega⟩
theorem Fj {a k m:Int}(hm:2≤m): ∀(f:Nat) (i:Int) {G:Ga} {n:Nat},2≤i→Safe t n (MK a k m f i) G λ_ z _=>1≤z∧z≤m
 |0,i,_,_,h=>Safe.ret λ_ _ _ _ _=>⟨by omega,by omega⟩
 |f+1,i,G,n,h=>by
  unfold MK;split
  ·cases n with
   |zero=>exact Safe.zero
   |succ n=>
    show Safe t (n+1) (rd (lM a i) >>= _) G _
    refine kQ λG1 m1 j1 _ _ _=>?_
    split
    ·exact Safe.ret λ_ _ _ _ _=>⟨by omega,by omega⟩
    ·exact Fj hm f (i+1) (by omega)
  ·exact Safe.ret λ_ _ _ _ _=>⟨by omega,by omega⟩
theorem bs.YC {m:Mm}(h:bs G m){d:Nat}(t0:G.ty c=some (.inner d p)):m.at c=d∧1≤d∧d≤16384∧1≤c∧c≤16384:=by
 have h1:=(h.iD _ _ t0).2.1;have h2:=(h.iD _ _ t0).1;have h3:=h.room _ _ t0;have h4:=h.top;simp[Rec.size] at h3;exact⟨h1,h2,by omega,by omega,by omega⟩
theorem Fk {f:Nat}{d:Nat}{k:Int}(t0:G.ty c=some (.inner d p)):Safe t n (lu f c k) G λ_ dc _=>dc.1=d∧0≤dc.2∧dc.2<d:=by
 unfold lu;refine kQ λG1 m1 j1 l1 i1 _=>?_
 obtain⟨e1,d1,d2,_⟩:=i1.YC (l1.le.ty _ _ t0);rw[e1,jw (by omega)]
 simp only;split
 ·exact Safe.ret λ_ _ _ _ _=>⟨rfl,by simp,by simp;omega⟩
 refine kQ λG2 m2 j2 l2 i2 _=>?_
 split
 ·exact Safe.ret λ_ _ _ _ _=>⟨rfl,by simp,by simp;omega⟩
 split
 ·exact Safe.ret λ_ _ _ _ _=>⟨rfl,by simp,by simp;omega⟩
 refine kQ λG3 m3 j3 l3 i3 _=>?_
 split
 ·exact Safe.ret λ_ _ _ _ _=>⟨rfl,by simp;omega,by simp;omega⟩
 have gl:=Fi (first:=m2.at (lM c 1)) (last:=m3.at (lM c (d-1))) (k:=k) (m:=d-1) (by omega)
 generalize hj:iC (m2.at (lM c 1)) (m3.at (lM c (d-1))) k (d-1)=j at gl
 cases j3 with
 |zero=>exact Safe.zero
 |succ j3=>
  show Safe t (j3+1) (if false=true∨j<1 then _ else _) G3 _
  split
  ·exact Safe.ret λ_ _ _ _ _=>⟨rfl,by simp,by simp;omega⟩
  next fK=>
  have tail: ∀(b:Bool) {G:Ga} {n:Nat},(b=true→j>1)→Safe t n (if b=true then mS c k f (j-1) >>= λi=>Tr.ret ((d:Int),i) else MK c k (d-1) f (j+1) >>= λi=>Tr.ret ((d:Int),i)) G λ_ dc _=>dc.1=d∧0≤dc.2∧dc.2<d:=by
   intro b G n hb;split
   ·next NT=>
    refine Safe.bind ((zo f (j-1) (hi:=j-1) (by omega) (by have:=hb NT;omega)).wk λj _ G1 _ _ h=>?_)
    exact Safe.ret λ_ _ _ _ _=>⟨rfl,by simp;omega,by simp;omega⟩
   ·refine Safe.bind ((Fj (by omega) f (j+1) (by omega)).wk λj _ G1 _ _ h=>?_)
    exact Safe.ret λ_ _ _ _ _=>⟨rfl,by simp;omega,by simp;omega⟩
  by_cases h1:j>1
  ·simp only[h1,if_true];refine kQ λG4 m4 j4 l4 i4 _=>?_
   exact tail (decide (m4.at (lM c j)>k)) λ_=>h1
  ·simp only[h1,if_false];exact tail false λh=>by cases h
theorem km {d:Nat}{i:Int}(hc:1≤c∧c≤16384)(hd:d≤16384)(hi:0≤i∧i<d):dr c d i=bY c d i.toNat:=by
 unfold dr E9 bY;rw[if_neg (by simp;omega)];omega
theorem Fl {f:Nat}{d:Nat}{k:Int}(t0:G.ty c=some (.inner d p)):Safe t n (nD f c k) G λ_ s G'=>∃q,aQ G' s c q:=by
 unfold nD;refine Safe.bind ((Fk t0).wk λj dc G1 _ g1 h=>?_)
 refine Safe.ret λG2 m2 l2 i2 _=>?_
 have t2:=l2.le.ty _ _ (g1.ty _ _ t0);obtain⟨e1,d1,d2,c1,c2⟩:=i2.YC t2;rw[h.1,km ⟨c1,c2⟩ d2 h.2];exact⟨_,d,p,dc.2.toNat,t2,by omega,rfl,rfl⟩
theorem aQ.mk' {d i:Nat}(t0:G.ty c=some (.inner d p))(hi:i<d):aQ G (bY c d i) c (p++[i]):=⟨d,p,i,t0,hi,rfl,rfl⟩
def aa9 (t f:Nat):Prop:=
 (∀{G:Ga} {c:Int} {p:List Nat} {d n:Nat},n≤f→G.ty c=some (.inner d p)→full G c d→Safe t n (kj f c) G λ_ z G'=>∃k:Nat,z=k∧sJ G' c k)∧
 (∀{G:Ga} {c:Int} {p:List Nat} {d n i all:Nat},n≤f→G.ty c=some (.inner d p)→full G c d→G.shut c→i≤d→gy G c d i all→Safe t n (iL f c d i all) G λ_ z G'=>∃k:Nat,z=k∧gy G' c d d k)
theorem Bu: ∀f,aa9 t f
 |0=>⟨λ{_ _ _ _ n} hn _ _=>by
   have:n=0:=by omega
   subst this;exact Safe.zero,λ{_ _ _ _ n _ _} hn _ _ _ _ _=>by
   have:n=0:=by omega
   subst this;exact Safe.zero⟩
 |f+1=>by
  obtain⟨ihT,ihL⟩:=Bu f;refine⟨?_,?_⟩
  ·intro G c p d n hn t0 hf;unfold kj;refine kQ λG1 m1 j1 l1 i1 e1=>?_
   have t1:=l1.le.ty _ _ t0;obtain⟨_,_,_,h4,_⟩:=i1.iD _ _ t1;split
   ·next hz=>
    rcases h4 with h4|⟨k,h4,ck⟩
    ·exact absurd h4 hz
    ·have:=ck.le i1
     refine Safe.ret λG2 m2 l2 i2 _=>⟨k,?_,ck.mono l2.le⟩
     rw[h4,jw (by omega)];omega
   refine aaZ t1 λG2 z2 j2 l2 e2 sh2=>?_
   refine kQ λG3 m3 j3 l3 i3 e3=>?_
   have t3:=l3.le.ty _ _ (l2.le.ty _ _ t1);rw[(i3.YC t3).1];have f3:=full.mono l3.le (full.mono l2.le (full.mono l1.le hf));refine Safe.bind ((ihL (i:=0) (all:=0) (by omega) t3 f3 (l3.le.shut _ sh2) (by omega) .zero).wk λj z G4 _ g4 h=>?_)
   obtain⟨k,rfl,ck⟩:=h;have t4:=g4.ty _ _ t3;have sh4:=g4.shut _ (l3.le.shut _ sh2);have c4:sJ G4 c k:=.mk t4 sh4 ck;refine Safe.real λG5 m5 l5 i5=>?_
   have:=(c4.mono l5.le).le i5
   rw[jw (by omega)]
   refine aa0 (l5.le.ty _ _ t4) (c4.mono l5.le) λG6 z6 j6 l6 _=>?_
   exact Safe.ret λG7 m7 l7 _ _=>⟨k,rfl,((c4.mono l5.le).mono l6.le).mono l7.le⟩
  ·intro G c p d n i all hn t0 hf hs hi hc;unfold iL;split
   ·next h=>
    have:i=d:=by omega
    subst this;exact Safe.ret λG2 m2 l2 _ _=>⟨all,rfl,hc.mono l2.le⟩
   ·next h=>
    cases n with
    |zero=>exact Safe.zero
    |succ n=>
     show Safe t (n+1) (kK f (dr c d i) >>= _) G _
     refine Safe.real λG0 m0 l0 i0=>?_
     obtain⟨_,d1,d2,c1,c2⟩:=i0.YC (l0.le.ty _ _ t0);rw[km ⟨c1,c2⟩ d2 (i:=(i:Int)) ⟨by omega,by omega⟩,Int.toNat_natCast]
     have tt:=l0.le.ty _ _ t0;have so:aQ G0 (bY c d i) c (p++[i]):=aQ.mk' tt (by omega)
     have NB:G0.nz (bY c d i):=l0.le.nz _ (hf i (by omega))
     refine Safe.bind ((zn (by omega) so).wk λj w G1 hj g1 h=>?_)
     obtain⟨hjn,h⟩:=h;rcases h with⟨_,h⟩|⟨fw,lj⟩
     ·exact absurd NB h
     have fz:=lj (l0.le.shut _ hs);have t1:=g1.ty _ _ tt;have f1:=full.mono g1 (full.mono l0.le hf);have s1:=g1.shut _ (l0.le.shut _ hs);have Va:=(hc.mono l0.le).mono g1;have e1:((i:Int)+1)=((i+1:Nat):Int):=by omega
     have add: ∀{G2:Ga} {z k j:Nat},G1.le G2→z=all+k→gy G2 c d (i+1) z→j≤f→Safe t j (iL f c d ((i:Int)+1) (wr ((all:Int)+k))) G2 λ_ z G'=>∃k:Nat,z=k∧gy G' c d d k:=by
      intro G2 z k j g2 ez cz hj;refine Safe.real λG3 m3 l3 i3=>?_
      have t3:=l3.le.ty _ _ (g2.ty _ _ t1);have:=(cz.mono l3.le).le i3 t3 (by omega)
      rw[jw (by omega),e1]
      have e2:(all:Int)+k=(z:Int):=by omega
      rw[e2];exact ihL hj t3 (full.mono l3.le (full.mono g2 f1)) (l3.le.shut _ (g2.shut _ s1)) (by omega) (cz.mono l3.le)
     rcases fw.2 with k|k|⟨k,d',t',f'⟩|⟨k,c',s',o',d',tr,JG,t',f'⟩
     ·rw[if_neg (by omega),if_neg (by omega),if_neg (by omega),e1]
      exact ihL (by omega) t1 f1 s1 (by omega) (.empty Va fz k)
     ·rw[if_pos k];exact add (Ga.le.refl _) rfl (.leaf Va fz k) (by omega)
     ·rw[if_neg (by omega),if_pos k]
      refine Safe.bind ((ihT (by omega) t' f').wk λj2 z G2 fP g2 h=>?_)
      obtain⟨kk,rfl,ck⟩:=h;exact add g2 rfl (.inner (Va.mono g2) (g2.dB _ _ fz) k ck) (by omega)
     ·rw[if_neg (by omega),if_neg (by omega),if_pos k]
      refine kQ λG2 m2 j2 l2 i2 e2=>?_
      have tr2:=l2.le.ty _ _ tr;obtain⟨_,_,_,_,_,_,_,aw2,_⟩:=i2.iD _ _ tr2;rw[aw2];refine Safe.bind ((ihT (by omega) (l2.le.ty _ _ t') (full.mono l2.le f')).wk λj3 z G3 gG g3 h=>?_)
      obtain⟨kk,rfl,ck⟩:=h;exact add (l2.le.trans g3) rfl (.bW ((Va.mono l2.le).mono g3) (g3.dB _ _ (l2.le.dB _ _ fz)) k (g3.ty _ _ tr2) ck) (by omega)
theorem Hi {f d:Nat}(hn:n≤f)(t0:G.ty c=some (.inner d p))(hf:full G c d):Safe t n (kj f c) G λ_ z G'=>∃k:Nat,z=k∧sJ G' c k:=(Bu f).1 hn t0 hf
theorem uf {a:Int}{q cs:List Int}(h:cs.length=q.length+1):cT a q cs=[(cs.length:Int),a,0,0,0]++q++cs:=by
 unfold cT;rw[if_neg (by omega)]
theorem Bv {a:Int}{q cs:List Int}(h:cs.length=q.length+1){i:Nat}(hi:i<cs.length):(cT a q cs).getD (4+cs.length+i) 0=cs.getD i 0:=by
 rw[uf h];simp only[List.getD_eq_getElem?_getD];rw[List.getElem?_append_right (by simp;omega)]
 congr 2;simp;omega
theorem Made.fit {a x:Int}{q cs:List Int}(h:cs.length=q.length+1)(k:Made G a (.inner cs.length p) (cT x q cs))(hc: ∀i,i<cs.length→cs.getD i 0≠0):di G p (fm 3 a):=by
 refine⟨n6.fm (by omega) k.pos k.ty,.inr (.inr (.inl ⟨iE (by omega) k.pos,cs.length,?_,?_⟩))⟩
 ·rw[jb (by omega) k.pos];exact k.ty
 ·rw[jb (by omega) k.pos]
  intro i hi;exact k.nz cs.length p i rfl hi (by rw[Bv h hi];exact hc i hi)
def aba (t f:Nat):Prop:=
 (∀{G:Ga} {n:Nat} (l:PL) (p:List Nat),Safe t n (iM f l) G λ_ x G'=>x.2=true→di G' p x.1)∧
 (∀{G:Ga} {n:Nat} (l:PL) (p:List Nat) (r i:Nat) (q cs:List Int),cs.length=i→(i=0∧q=[]∨q.length+1=i)→(∀j,j<i→di G (p++[j]) (cs.getD j 0))→
  Safe t n (lz f l r i q cs) G λ_ x G'=>x.2=true→di G' p x.1)
theorem MR: ∀f,aba t f:=by
 intro f;have hL: ∀f,(∀{G:Ga} {n:Nat} (l:PL) (p:List Nat),Safe t n (iM f l) G λ_ x G'=>x.2=true→di G' p x.1)→
   ∀{G:Ga} {n:Nat} (l:PL) (p:List Nat) (r i:Nat) (q cs:List Int),cs.length=i→(i=0∧q=[]∨q.length+1=i)→(∀j,j<i→di G (p++[j]) (cs.getD j 0))→
    Safe t n (lz f l r i q cs) G λ_ x G'=>x.2=true→di G' p x.1:=by
  intro f hT G n l p r;induction r generalizing G n with
  |zero=>
   intro i q cs hc hq hf;unfold lz;rcases hq with⟨h0,hq⟩|hq
   ·have:cs=[]:=List.length_eq_zero_iff.1 (by omega)
    subst this;rw[show cT (l.length:Int) q []=[] by unfold cT;rw[if_pos (by simp)]]
    refine aa8 λG1 j1 _ _=>?_
    exact Safe.ret λ_ _ _ _ _ h=>by simp at h
   ·refine Dc (r:=.inner cs.length p) ⟨by omega,l.length,q,cs,rfl,rfl,by omega,λi hi=>.inr (hf i (by omega))⟩ (λG1 j1 _ _=>Safe.ret λ_ _ _ _ _ h=>by simp at h) λG1 z j1 l1 _ ma=>?_
    exact Safe.ret λG2 m2 l2 _ _ _=>(ma.fit (by omega) λi hi=>(hf i (by omega)).U3).mono l2.le
  |succ r ih=>
   intro i q cs hc hq hf;unfold lz;refine Safe.bind ((hT _ (p++[i])).wk λj x G1 _ g1 hx=>?_)
   cases hb:x.2 with
   |false=>exact Safe.ret λ_ _ _ _ _ h=>by simp at h
   |true=>
    rw[if_neg (by decide)]
    refine ih (i+1) _ _ (by simp[hc]) ?_ ?_
    ·rcases hq with⟨rfl,rfl⟩|hq
     ·exact .inr rfl
     ·refine .inr ?_;rw[if_pos (by omega)];simp;omega
    ·intro k hk;by_cases e:k=i
     ·subst e;simp only[List.getD_eq_getElem?_getD];rw[List.getElem?_append_right (by omega)]
      simp[hc];exact hx hb
     ·simp only[List.getD_eq_getElem?_getD];rw[List.getElem?_append_left (by omega)]
      have:=(hf k (by omega)).mono g1
      simpa only[List.getD_eq_getElem?_getD] using this
 have hT: ∀f,∀{G:Ga} {n:Nat} (l:PL) (p:List Nat),Safe t n (iM f l) G λ_ x G'=>x.2=true→di G' p x.1:=by
  intro f;induction f with
  |zero=>
   intro G n l p;unfold iM;exact Safe.ret λ_ _ _ _ _ h=>by simp at h
  |succ f ih=>
   intro G n l p
   match l with
   | []=>
    unfold iM;refine Dc (r:=.empty) rfl (λG1 j1 _ _=>Safe.ret λ_ _ _ _ _ h=>by simp at h) λG1 z j1 l1 _ ma=>?_
    exact Safe.ret λ_ _ g _ _ _=>⟨(n6.fm (by omega) ma.pos ma.ty).mono g.le,.inl (iE (by omega) ma.pos)⟩
   | [kv]=>
    unfold iM;refine Dc (r:=.leaf) rfl (λG1 j1 _ _=>Safe.ret λ_ _ _ _ _ h=>by simp at h) λG1 z j1 l1 _ ma=>?_
    exact Safe.ret λ_ _ g _ _ _=>⟨(n6.fm (by omega) ma.pos ma.ty).mono g.le,.inr (.inl (iE (by omega) ma.pos))⟩
   |a::b::l=>
    unfold iM;exact hL f ih _ p _ 0 [] [] rfl (.inl ⟨rfl,rfl⟩) λj hj=>by omega
 exact⟨hT f,hL f (hT f)⟩
theorem zp {f:Nat}(l:PL)(p:List Nat):Safe t n (iM f l) G λ_ x G'=>x.2=true→di G' p x.1:=(MR f).1 l p
end Go.Proofs.YtgfgglponbmgmaaGreatA.Y
end
