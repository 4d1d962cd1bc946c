/- Texts of the proof of helpLogic_holds, put together by a small program of ours (names shortened, spaces taken out). No condition beyond the given statement. -/
import Derived.Test.YtgfgglponbmgmaaGreatHLG24
import Derived.Test.YtgfgglponbmgmaaGreatHLG15
import Derived.Test.YtgfgglponbmgmaaGreatHLG14
import Derived.Test.YtgfgglponbmgmaaGreatHLG28
set_option linter.unusedVariables false
set_option linter.unusedSimpArgs false
set_option linter.unnecessarySimpa false
noncomputable section
section
namespace Go.Proofs.YtgfgglponbmgmaaGreatA.Y
variable {G:Ga} {c s o w:Int} {p:List Nat} {α β:Type} {t n:Nat}
theorem Safe.uW {f:Bool→Tr α}{Q:Nat→α→Ga→Prop}(h:Safe t n (f false) G Q):Safe t n (gT >>= f) G Q:=by
 cases n with
 |zero=>exact Safe.zero
 |succ n=>exact h
theorem Safe.rcB {r:Int}{u:Tr α}{Q:Nat→α→Ga→Prop}(h:Safe t n u G Q):Safe t n (Tr.rc r u) G Q:=by
 cases n with
 |zero=>exact Safe.zero
 |succ n=>exact h
theorem Safe.ldB {u:Tr α}{Q:Nat→α→Ga→Prop}(h:Safe t n u G Q):Safe t n (Tr.ld u) G Q:=by
 cases n with
 |zero=>exact Safe.zero
 |succ n=>exact h
theorem nC {k:Int}(h:2≤k∧k≤16384):2≤bo k:=by
 unfold bo;rw[if_neg (by omega)];split<;>omega
theorem Ls {f d k:Nat}(t0:G.ty c=some (.inner d p))(hc:sk G c k):Safe t n (Cv f c k) G λ_ x G'=>x.2=true→x.1≠0∧zQ G' c p x.1:=by
 refine Safe.real λG0 m0 l0 i0=>?_
 have hk:=(hc.mono l0.le).le i0;unfold Cv;split
 ·next h2=>
  have dg:=nC (k:=k) (by omega)
  refine CA (r:=.inner (max (bo k) 1).toNat p) ⟨by omega,k,_,_,rfl,by simp,by simp;omega,λi hi=>.inl ?_⟩ (λG1 j1 _ _=>Safe.ret λ_ _ _ _ _ h=>by simp at h) λG1 z j1 l1 _ ma=>?_
  ·simp[List.getD_eq_getElem?_getD,List.getElem?_replicate];split<;>rfl
  ·refine Safe.ret λG2 m2 l2 _ _ _=>?_
   have kz:=ik (k:=3) (by omega) ma.pos
   refine⟨λ(h:fI 3 z=0)=>by rw[h,sq] at kz;omega,FX _ _,k,((hc.mono l0.le).mono l1.le).mono l2.le,λ_=>⟨kz,?_⟩,λh=>by omega⟩
   rw[iO (by omega) ma.pos];exact l2.le.ty _ _ ma.ty
 ·next h2=>
  have R:Reads (if(k:Int)=1 then gJ f c 0 1 [] else pure []):=.ite (mg _ _ _ _ _) (.pure _)
  refine Safe.bind ((R.safe).wk λj l G1 _ g1 _=>?_)
  refine Safe.uW ?_;rw[if_neg (by decide)]
  refine(yR l p).wk λj x G2 _ g2 h hx=>⟨(h hx).Tw,(h hx).1.1,k,((hc.mono l0.le).mono g1).mono g2,λh=>by omega,λ_=>h hx⟩
theorem R5 {i:Int}(hc:1≤c∧c≤16384)(hi:0≤i∧i≤16384):lC c i=c+4+i:=by
 unfold lC D4;rw[if_neg (by simp;omega)]
theorem F8 {d i:Int}(hi:i<0):dh c d i=0:=by
 unfold dh D4;rw[if_pos (by simp;omega)]
theorem Lu {d:Nat}{l:PL}{i x:Int}(t0:G.ty c=some (.inner d p))(hi:i<d)(hx:0≤i→da G (p++[i.toNat]) x):Safe t n (KZ l c d i x) G λ_ b G'=>0≤i→G'.nz (bV c d i.toNat):=by
 refine Safe.real λG0 m0 l0 i0=>?_
 have t1:=l0.le.ty _ _ t0;obtain⟨_,d1,d2,c1⟩:=i0.Xa t1;have put: ∀{G1:Ga} {j:Nat},G0.le G1→Safe t j (cs (dh c d i) 0 x >>= λ_=>Tr.ret true) G1 λ_ b G'=>0≤i→G'.nz (bV c d i.toNat):=by
  intro G1 j g1;by_cases h0:0≤i
  ·rw[jX c1 d2 ⟨h0,hi⟩];have so:aQ G1 (bV c d i.toNat) c (p++[i.toNat]):=aQ.mk' (g1.ty _ _ t1) (by omega)
   exact Z1 so (((hx h0).mono l0.le).mono g1) λG2 z j2 l2 _ hz=>Safe.ret λG3 m3 l3 _ _ _=>l3.le.nz _ hz
  ·rw[F8 (by omega)]
   exact Z2 λG2 z j2 l2 _=>Safe.ret λG3 m3 l3 _ _ h=>absurd h h0
 unfold KZ;split
 ·exact put (Ga.le.refl _)
 ·split
  ·rw[R5 c1 (by omega)]
   exact ZW t1 (by omega) λG2 z j2 l2 _=>put l2.le
  ·exact put (Ga.le.refl _)
theorem yV {f d:Nat}{a k i:Int}(t0:G.ty c=some (.inner d p))(hi:i<d):Safe t n (oN f a k c d i) G λ_ b G'=>b=true→0≤i→G'.nz (bV c d i.toNat):=by
 unfold oN;refine Safe.bind (((mg _ _ _ _ _).safe).wk λj l G1 _ g1 _=>?_)
 refine Safe.uW ?_;rw[if_neg (by decide)]
 refine Safe.bind ((yR l (p++[i.toNat])).wk λj x G2 _ g2 h=>?_)
 cases hb:x.2 with
 |false=>exact Safe.ret λ_ _ _ _ _ h=>by simp at h
 |true=>
  rw[if_neg (by decide)]
  exact(Lu (g2.ty _ _ (g1.ty _ _ t0)) hi λ_=>h hb).wk λ_ _ _ _ _ h _=>h
theorem ug {g d:Nat}{a k dS r s:Int}(hd:bo k=d): ∀(f:Nat) {G:Ga} {n:Nat},G.ty c=some (.inner d p)→G.ty dS=some (.bT r s)→Safe t n (kg g dS a k c f) G λ_ _ _=>True
 |0,_,_,_,_=>Safe.ret λ_ _ _ _ _=>trivial
 |f+1,G,n,t0,tr=>by
  unfold kg;refine Safe.uW ?_;rw[if_neg (by decide)]
  refine Safe.real λG0 m0 l0 i0=>?_
  have bg:=i0.RR (l0.le.ty _ _ tr);rw[ji (by omega)]
  refine ZX (l0.le.ty _ _ tr) (.inr ⟨_,_,rfl,rfl⟩) λG1 z j1 l1 _=>?_
  have t0:=l0.le.ty _ _ t0;have tr:=l0.le.ty _ _ tr;split
  ·exact Safe.ret λ_ _ _ _ _=>trivial
  refine Safe.uW ?_;rw[if_neg (by decide),hd]
  refine Safe.bind ((yV (l1.le.ty _ _ t0) (by omega)).wk λj b G2 _ g2 _=>?_)
  split
  ·exact Safe.ret λ_ _ _ _ _=>trivial
  ·exact ug hd f (g2.ty _ _ (l1.le.ty _ _ t0)) (g2.ty _ _ (l1.le.ty _ _ tr))
theorem yW {g d:Nat}{a k:Int}(hd:bo k=d): ∀(f:Nat) {G:Ga} {n i:Nat},n≤f→i≤d→G.ty c=some (.inner d p)→(∀j,j<i→G.nz (bV c d j))→Safe t n (gK g a k c f i) G λ_ b G'=>b=true→full G' c d
 |0,_,n,_,hn,_,_,_=>by
  have:n=0:=by omega
  subst this;exact Safe.zero
 |f+1,G,n,i,hn,hi,t0,hz=>by
  unfold gK;rw[hd];split
  ·next h=>
   have:i=d:=by omega
   subst this;exact Safe.ret λG2 m2 l2 _ _ _ j hj=>l2.le.nz _ (hz j hj)
  ·next h=>
   refine Safe.uW ?_;rw[if_neg (by decide)]
   refine Safe.real λG0 m0 l0 i0=>?_
   have t1:=l0.le.ty _ _ t0;obtain⟨_,d1,d2,c1⟩:=i0.Xa t1;rw[jX c1 d2 (i:=(i:Int)) ⟨by omega,by omega⟩,Int.toNat_natCast]
   have so:aQ G0 (bV c d i) c (p++[i]):=aQ.mk' t1 (by omega)
   have e1:((i:Int)+1)=((i+1:Nat):Int):=by omega
   have next: ∀{G2:Ga} {j:Nat},G0.le G2→j≤f→G2.nz (bV c d i)→Safe t j (gK g a k c f ((i:Int)+1)) G2 λ_ b G'=>b=true→full G' c d:=by
    intro G2 j g2 hj hz2;rw[e1];refine yW hd f hj (by omega) (g2.ty _ _ t1) λq hq=>?_
    by_cases e:q=i
    ·subst e;exact hz2
    ·exact g2.nz _ (l0.le.nz _ (hz q (by omega)))
   refine kH λG1 m1 j1 l1 i1 e1=>?_
   split
   ·next dy=>
    refine next l1.le (by omega) ?_
    rcases i1.slot (so.mono l1.le) with⟨x,_⟩|⟨x,_⟩
    ·exact absurd x dy
    ·exact x
   ·refine Safe.uW ?_;rw[if_neg (by decide)]
    refine Safe.bind ((yV (l1.le.ty _ _ t1) (i:=(i:Int)) (by omega)).wk λj b G2 hj g2 h=>?_)
    cases b with
    |false=>exact Safe.ret λ_ _ _ _ _ h=>by simp at h
    |true=>
     rw[if_neg (by decide)]
     have:=h rfl (by omega)
     rw[Int.toNat_natCast] at this;exact next (l1.le.trans g2) (by omega) this
theorem Ei {f d:Nat}{a k dS r s:Int}(hn:n≤f)(hd:bo k=d)(t0:G.ty c=some (.inner d p))(tr:G.ty dS=some (.bT r s)):Safe t n (gg f dS a k c) G λ_ b G'=>b=true→full G' c d:=by
 unfold gg;refine Safe.bind ((ug hd f t0 tr).wk λj b G1 hj g1 _=>?_)
 cases b with
 |false=>exact Safe.ret λ_ _ _ _ _ h=>by simp at h
 |true=>
  rw[if_neg (by decide)]
  exact yW hd f (i:=0) (by omega) (by omega) (g1.ty _ _ t0) λj hj=>by omega
theorem bs.OK {m:Mm}(h:bs G m){dS:Int}(t0:G.ty dS=some (.bT c s)): ∃o p d,aQ G s o p∧G.ty c=some (.inner d p)∧full G c d∧kd (m.at dS)=3∧aw (m.at dS)=c∧m.at (dS+1)=o+2∧m.at (dS+2)=s∧((m.at (dS+3)=0∧¬G.nz (dS+3))∨(m.at (dS+3)≠0∧G.nz (dS+3)∧zQ G c p (m.at (dS+3)))):=h.ij _ _ t0
theorem da.reb {dS d:Int}{k:Nat}(hp:1≤dS∧dS≤65536)(t0:G.ty dS=some (.bT c s))(so:aQ G s o p)(tc:G.ty c=some (.inner k p))(hf:full G c k):da G p (fI 4 dS):=by
 refine⟨nZ.fI (by omega) hp t0,.inr (.inr (.inr ⟨ik (by omega) hp,c,s,o,k,?_,so,tc,hf⟩))⟩
 rw[iO (by omega) hp];exact t0
theorem uh {dS:Int}(t0:G.ty dS=some (.bT c s))(tc: ∃d,G.ty c=some (.inner d p))(hw:da G p w):Safe t n (tA dS w) G λ_ _ _=>True:=by
 unfold tA;refine Safe.real λG0 m0 l0 i0=>?_
 have bg:=i0.RR (l0.le.ty _ _ t0);have t0:=l0.le.ty _ _ t0;have hw:=hw.mono l0.le;obtain⟨d0,tc⟩:=tc;have tc: ∃d,G0.ty c=some (.inner d p):=⟨d0,l0.le.ty _ _ tc⟩;rw[ji (x:=dS+1) (by omega),ji (x:=dS+2) (by omega)]
 refine kH λG1 m1 j1 l1 i1 _=>?_
 have t1:=l1.le.ty _ _ t0;obtain⟨o,p',d,so,Yz,fc,_,_,e1,e2,_⟩:=i1.OK t1;obtain⟨d',tc⟩:=tc;have:p'=p:=by
  rw[l1.le.ty _ _ tc] at Yz;cases Yz;rfl
 subst this;rw[e1];refine kH λG2 m2 j2 l2 i2 _=>?_
 have t2:=l2.le.ty _ _ t1;obtain⟨_,_,_,_,_,_,_,_,_,e2,_⟩:=i2.OK t2;rw[e2];have TC:=so.mono l2.le;refine Safe.bind ((qF TC rfl (da.reb (d:=0) (i2.RR t2) t2 TC (l2.le.ty _ _ Yz) (full.mono l2.le fc)) ((hw.mono l1.le).mono l2.le)).wk λj r G3 _ _ _=>?_)
 exact Safe.ret λ_ _ _ _ _=>trivial
theorem yX {f d k:Nat}{dS:Int}(hn:n≤f)(t0:G.ty dS=some (.bT c s))(tc:G.ty c=some (.inner d p))(hk:sk G c k)(hw:zQ G c p w):Safe t n (AN f dS c k w) G λ_ _ _=>True:=by
 refine Safe.real λG0 m0 l0 i0=>?_
 obtain⟨h0,k',ck,h2,h1⟩:=hw.mono l0.le;have:k'=k:=sk.uniq (λ_ _ _=>i0.ZS) ck (hk.mono l0.le)
 subst this;have hk':=ck.le i0;unfold AN;split
 ·next Yg=>
  have dg:=nC (k:=(k':Int)) (by omega)
  obtain⟨kw,tw⟩:=h2 (by omega)
  have ed:bo (k':Int)=((max (bo (k':Int)) 1).toNat:Int):=by omega
  refine Safe.bind ((Ei hn ed tw (l0.le.ty _ _ t0)).wk λj b G1 hj g1 h=>?_)
  cases b with
  |false=>exact Safe.ret λ_ _ _ _ _=>trivial
  |true=>
   rw[if_neg (by decide)]
   exact uh (g1.ty _ _ (l0.le.ty _ _ t0)) ⟨d,g1.ty _ _ (l0.le.ty _ _ tc)⟩ ⟨⟨h0,_,g1.ty _ _ tw⟩,.inr (.inr (.inl ⟨kw,_,g1.ty _ _ tw,h rfl⟩))⟩
 ·exact uh (l0.le.ty _ _ t0) ⟨d,l0.le.ty _ _ tc⟩ (h1 (by omega))
theorem ui {f:Nat}{dS:Int}(hn:n≤f+1)(t0:G.ty dS=some (.bT c s)):Safe t n (gU f dS) G λ_ _ _=>True:=by
 unfold gU;refine kH λG1 m1 j1 l1 i1 e1=>?_
 have t1:=l1.le.ty _ _ t0;obtain⟨o,p,d,so,tc,fc,_,ea,_⟩:=i1.OK t1;have bg:=i1.RR t1;rw[ea,ji (x:=dS+3) (by omega)]
 refine Safe.bind ((FZ (by omega) tc fc).wk λj2 z G2 fH g2 h=>?_)
 obtain⟨k,rfl,ck⟩:=h;refine kH λG3 m3 j3 l3 i3 e3=>?_
 have t3:=l3.le.ty _ _ (g2.ty _ _ t1);have tc3:=l3.le.ty _ _ (g2.ty _ _ tc);have ck3:=ck.mono l3.le;refine Safe.uW ?_;rw[if_neg (by decide)]
 have top: ∀{G':Ga} {m:Mm},bs G' m→G1.le G'→m.at (dS+3)≠0→zQ G' c p (m.at (dS+3)):=by
  intro G' m i g h;obtain⟨o',p',d',Ip,Yz,_,_,_,_,_,k⟩:=i.OK (g.ty _ _ t1);rw[g.ty _ _ tc] at Yz;cases Yz;rcases k with⟨k,_⟩|⟨_,_,k⟩
  ·exact absurd k h
  ·exact k
 split
 ·refine Safe.bind ((Ls tc3 ck3).wk λj4 x G4 iW g4 h=>?_)
  cases hb:x.2 with
  |false=>exact Safe.ret λ_ _ _ _ _=>trivial
  |true=>
   rw[if_neg (by decide)]
   obtain⟨x0,xt⟩:=h hb;refine Z0 (g4.ty _ _ t3) (g4.ty _ _ tc3) x0 xt λG5 z j5 l5 e5 nz5=>?_
   refine kH λG6 m6 j6 l6 i6 e6=>?_
   have g6:G3.le G6:=g4.trans (l5.le.trans l6.le);have ne:m6.at (dS+3)≠0:=by
    obtain⟨_,_,_,_,_,_,_,_,_,_,k⟩:=i6.OK (g6.ty _ _ t3);rcases k with⟨_,k⟩|⟨k,_⟩
    ·exact absurd (l6.le.nz _ nz5) k
    ·exact k
   exact yX (by omega) (g6.ty _ _ t3) (g6.ty _ _ tc3) (ck3.mono g6) (top i6 (g2.trans (l3.le.trans g6)) ne)
 ·next dy=>exact yX (by omega) t3 tc3 ck3 (top i3 (g2.trans l3.le) dy)
def zS (G:Ga)(e:En):Prop:=nZ G e.word∧∃p d,aQ G e.slot e.node p∧kd e.word=3∧G.ty (aw e.word)=some (.inner d p)∧full G (aw e.word) d
theorem zS.mono {G':Ga}{e:En}(g:G.le G')(h:zS G e):zS G' e:=by
 obtain⟨h0,p,d,h1,h2,h3,h4⟩:=h;exact⟨h0.mono g,p,d,h1.mono g,h2,g.ty _ _ h3,full.mono g h4⟩
theorem Ej {f:Nat}{e:En}(hn:n≤f)(h:zS G e):Safe t n (oO f e) G λ_ _ _=>True:=by
 obtain⟨f0,p,d,so,kw,tw,fw⟩:=h;unfold oO;refine CA (r:=.bT (aw e.word) e.slot) ⟨e.node,p,d,e.word,so,tw,fw,kw,rfl,rfl⟩ (λG1 j1 _ _=>?_) λG1 a j1 l1 _ ma=>?_
 ·rw[if_pos (by omega)];exact Safe.ret λ_ _ _ _ _=>trivial
 have pa:=ma.pos;rw[if_neg (by omega)]
 have TB:=so.mono l1.le;have fr:=da.reb (d:=0) pa ma.ty TB (l1.le.ty _ _ tw) (full.mono l1.le fw);have fo:da G1 p e.word:=⟨f0.mono l1.le,.inr (.inr (.inl ⟨kw,d,l1.le.ty _ _ tw,full.mono l1.le fw⟩))⟩;refine Safe.bind ((qF TB rfl fo fr).wk λj r G2 hj g2 _=>?_)
 split
 ·exact ui (by omega) (g2.ty _ _ ma.ty)
 ·exact Safe.ret λ_ _ _ _ _=>trivial
theorem uj {f:Nat}: ∀(l:List En) (first:Option En) {G:Ga} {n:Nat},n≤f→(∀e∈l,zS G e)→(∀e,first=some e→zS G e)→Safe t n (di f first l) G λ_ _ _=>True
 | [],none,_,_,_,_,_=>Safe.ret λ_ _ _ _ _=>trivial
 | [],some e,G,n,hn,_,hf=>by
  unfold di;refine Safe.uW ?_;rw[if_neg (by decide)]
  exact Safe.bind ((Ej hn (hf e rfl)).wk λj b G1 _ _ _=>Safe.ret λ_ _ _ _ _=>trivial)
 |e::l,first,G,n,hn,hl,hf=>by
  unfold di;refine Safe.uW ?_;rw[if_neg (by decide)]
  obtain⟨f0,p,d,so,kw,tw,fw⟩:=hl e (by simp)
  refine ZX tw (.inl ⟨_,_,rfl,rfl⟩) λG1 z j1 l1 _=>?_
  refine kH λG2 m2 j2 l2 i2 _=>?_
  have g:=l1.le.trans l2.le;refine uj l _ (by omega) (λx hx=>(hl x (by simp[hx])).mono g) λx hx=>?_
  cases first with
  |some y=>simp only at hx;cases hx;exact(hf _ rfl).mono g
  |none=>
   simp only at hx;split at hx
   ·cases hx;exact(hl _ (by simp)).mono g
   ·cases hx
theorem Ek {op:Op}{q:Int}{leaf there:Bool}(hl:leaf=true→kd w=2∧nZ G w):Safe t n (mf op w q leaf there) G λ_ x G'=>x.2=true→da G' p x.1:=by
 unfold mf;split
 ·refine CA (r:=.empty) rfl (λG1 j1 _ _=>Safe.ret λ_ _ _ _ _ h=>by simp at h) λG1 z j1 l1 _ ma=>?_
  exact Safe.ret λ_ _ g _ _ _=>⟨(nZ.fI (by omega) ma.pos ma.ty).mono g.le,.inl (ik (by omega) ma.pos)⟩
 ·refine CA (r:=.leaf) rfl (λG1 j1 _ _=>?_) λG1 a j1 l1 _ ma=>?_
  ·rw[if_pos (.inl (by omega))]
   exact Safe.ret λ_ _ _ _ _ h=>by simp at h
  have fy: ∀{G':Ga} {p':List Nat},G1.le G'→da G' p' (fI 2 a):=λg=>⟨(nZ.fI (by omega) ma.pos ma.ty).mono g,.inr (.inl (ik (by omega) ma.pos))⟩
  split
  ·exact Safe.ret λ_ _ g _ _ _=>fy g.le
  ·next hc=>
   have TO:leaf=true:=by
    cases leaf with
    |true=>rfl
    |false=>exact absurd (.inr (.inl rfl)) hc
   have fw: ∀{G':Ga} {p':List Nat},G1.le G'→da G' p' w:=λg=>⟨((hl TO).2.mono l1.le).mono g,.inr (.inl (hl TO).1)⟩
   have qX: ∀{G':Ga} {p':List Nat} (i:Nat),G1.le G'→i<2→da G' (p'++[i]) ((if op.key<q then[fI 2 a,w] else[w,fI 2 a]).getD i 0):=by
    intro G' p' i g hi;have:i=0∨i=1:=by omega
    split<;>rcases this with rfl|rfl
    ·exact fy g
    ·exact fw g
    ·exact fw g
    ·exact fy g
   have hlen:(if op.key<q then[fI 2 a,w] else[w,fI 2 a]).length=2:=by split<;>rfl
   refine CA (r:=.inner 2 p) ⟨by omega,2,_,_,rfl,hlen,rfl,λi hi=>.inr (qX i (Ga.le.refl _) hi)⟩ (λG2 j2 _ _=>Safe.ret λ_ _ _ _ _ h=>by simp at h) λG2 b j2 l2 _ mb=>?_
   refine Safe.ret λG3 m3 l3 _ _ _=>?_
   refine da.mono l3.le ?_;have mb':Made G2 b (.inner (if op.key<q then[fI 2 a,w] else[w,fI 2 a]).length p) (cP 2 [max q op.key] (if op.key<q then[fI 2 a,w] else[w,fI 2 a])):=by rw[hlen];exact mb
   exact mb'.fit (by rw[hlen];rfl) λi hi=>(qX (G':=G2) (p':=p) i l2.le (by omega)).Tw
theorem qG {f:Nat}{op:Op}{q:Int}{leaf:Bool}{path:List En}{res:Rs}(hn:n≤f)(so:aQ G s o p)(hw:da G p w)(hl:leaf=true→kd w=2)(hp: ∀e∈path,zS G e):Safe t n (yJ f op o s w q leaf path res) G λ_ _ _=>True:=by
 unfold yJ;refine Safe.uW ?_;split
 ·exact Safe.ret λ_ _ _ _ _=>trivial
 refine Safe.bind ((Ek (p:=p) λh=>⟨hl h,hw.1⟩).wk λj x G1 hj g1 h=>?_)
 cases hb:x.2 with
 |false=>exact Safe.ret λ_ _ _ _ _=>trivial
 |true=>
  rw[if_neg (by decide)]
  refine Safe.rcB (Safe.bind ((qF (so.mono g1) rfl (hw.mono g1) (h hb)).wk λj2 r G2 fH g2 _=>?_))
  refine Safe.ldB ?_;split
  ·exact Safe.ret λ_ _ _ _ _=>trivial
  split
  ·exact Safe.bind ((uj path none (by omega) (λe he=>((hp e he).mono g1).mono g2) λe he=>by cases he).wk λj3 _ G3 _ _ _=>Safe.ret λ_ _ _ _ _=>trivial)
  ·exact Safe.ret λ_ _ _ _ _=>trivial
theorem Lv {f:Nat}{op:Op}{path:List En}(hn:n≤f)(so:aQ G s o p)(hw:da G p w)(hp: ∀e∈path,zS G e):Safe t n (lD f op o s w path) G λ_ _ _=>True:=by
 unfold lD;split
 ·next hk=>
  refine kH λG1 m1 j1 l1 i1 _=>?_
  have EY:=λe he=>(hp e he).mono l1.le
  split
  ·refine kH λG2 m2 j2 l2 i2 _=>?_
   exact qG (by omega) ((so.mono l1.le).mono l2.le) ((hw.mono l1.le).mono l2.le) (λ_=>hk) λe he=>(EY e he).mono l2.le
  ·exact qG (by omega) (so.mono l1.le) (hw.mono l1.le) (λ_=>hk) EY
 ·exact qG hn so hw (λh=>by cases h) hp
theorem qh {g:Nat}{op:Op}: ∀(f:Nat) {G:Ga} {n d:Nat} {c:Int} {p:List Nat} {path:List En},n≤g→G.ty c=some (.inner d p)→full G c d→(∀e∈path,zS G e)→Safe t n (dP g op f c path) G λ_ _ _=>True
 |0,_,_,_,_,_,_,_,_,_,_=>Safe.ret λ_ _ _ _ _=>trivial
 |f+1,G,n,d,c,p,path,hn,t0,hf,hp=>by
  unfold dP;refine Safe.uW ?_;rw[if_neg (by decide)]
  refine Safe.bind ((Ef t0).wk λj s G1 hj g1 h=>?_)
  obtain⟨q,so⟩:=h;have LX:G1.nz s:=by
   obtain⟨d',q',i,t',hi,e,_⟩:=so;rw[g1.ty _ _ t0] at t';cases t';rw[e];exact g1.nz _ (hf i hi)
  refine Safe.bind ((yP (by omega) so).wk λj2 w G2 fH g2 h=>?_)
  obtain⟨hjn,h⟩:=h;rcases h with⟨_,h⟩|⟨fw,_⟩
  ·exact absurd LX h
  have TC:=so.mono g2;have I3: ∀e∈path,zS G2 e:=λe he=>((hp e he).mono g1).mono g2
  split
  ·next hk=>
   rcases fw.2 with k|k|⟨k,_⟩|⟨_,c',s',o',d',tr,_⟩
   ·omega
   ·omega
   ·omega
   ·exact Safe.bind ((ui (by omega) tr).wk λj3 b G3 _ _ _=>by
     split<;>exact Safe.ret λ_ _ _ _ _=>trivial)
  split
  ·next hk=>
   rcases fw.2 with k|k|⟨_,d',t',f'⟩|⟨k,_⟩
   ·omega
   ·omega
   ·refine qh f (by omega) t' f' λe he=>?_
    rcases List.mem_append.1 he with h|h
    ·exact I3 e h
    ·rw[List.mem_singleton] at h;subst h;exact⟨fw.1,q,d',TC,hk,t',f'⟩
   ·omega
  ·exact Lv (by omega) TC fw I3
theorem su {g:Nat}{op:Op}: ∀(f:Nat) {G:Ga} {n:Nat},n≤g→G.ty 1=some (.inner 1 [])→full G 1 1→Safe t n (gh g op f) G λ_ _ _=>True
 |0,_,_,_,_,_=>Safe.ret λ_ _ _ _ _=>trivial
 |f+1,G,n,hn,t0,hf=>by
  unfold gh;refine Safe.uW ?_;rw[if_neg (by decide)]
  refine Safe.bind ((qh g hn t0 hf λe he=>by cases he).wk λj r G1 hj g1 _=>?_)
  split
  ·exact Safe.ret λ_ _ _ _ _=>trivial
  ·exact su f (by omega) (g1.ty _ _ t0) (full.mono g1 hf)
variable {G:Ga} {m:Mm} {c s o w:Int} {p:List Nat}
def lf (m:Mm)(s:Int):Int:=if kd (m.at s)≠5 then m.at s else if m.at (aw (m.at s)+4)=1 then m.at (aw (m.at s)+3) else m.at (aw (m.at s)+2)
mutual
inductive eN (m:Mm):Int→List (Int×Int)→Prop where
 |none {w:Int} (h3:kd w≠3) (h4:kd w≠4):eN m w []
 |reb {w:Int} {l:List (Int×Int)} (h4:kd w=4) (h3:kd (m.at (aw w))=3) (h:eN m (m.at (aw w)) l):eN m w l
 |inner {w:Int} {l:List (Int×Int)} (h3:kd w=3) (h:F9 m (aw w) (m.at (aw w)) 0 l):eN m w l
inductive F9 (m:Mm):Int→Int→Int→List (Int×Int)→Prop where
 |done {a d i:Int} (h: ¬i<d):F9 m a d i []
 |next {a d i:Int} {l l':List (Int×Int)} (h:i<d) (k:eN m (lf m (dh a d i)) l) (r:F9 m a d (i+1) l'):F9 m a d i ((a,dh a d i)::(l++l'))
end
theorem bs.TP (h:bs G m)(so:aQ G s o p)(hz:G.nz s):da G p (lf m s):=by
 unfold lf;rcases h.slot so with⟨_,a⟩|⟨_,a|⟨a,_,old,new,b,t⟩⟩
 ·exact absurd hz a
 ·rw[if_pos a.PJ];exact a
 ·rw[if_neg (by simp[a])]
  obtain⟨o',p',Ip,fo,fn,_,_,e2,e3,_⟩:=h.ij _ _ t;have:=(aQ.uniq h so Ip).2
  subst this;split
  ·rw[e3];exact fn
  ·rw[e2];exact fo
theorem bs.deep (h:bs G m): ∃M:Nat,∀a d q,G.ty a=some (.inner d q)→q.length≤M:=by
 have key: ∀N:Nat,∃M:Nat,∀(a:Int) d q,a≤N→G.ty a=some (.inner d q)→q.length≤M:=by
  intro N;induction N with
  |zero=>exact⟨0,λa d q ha t=>by have:=h.room _ _ t;omega⟩
  |succ N ih=>
   obtain⟨M,hM⟩:=ih;cases e:G.ty ((N+1:Nat):Int) with
   |none=>exact⟨M,λa d q ha t=>by
     by_cases ea:a=((N+1:Nat):Int)
     ·rw[ea,e] at t;cases t
     ·exact hM a d q (by omega) t⟩
   |some r=>
    cases r with
    |inner d0 q0=>exact⟨max M q0.length,λa d q ha t=>by
      by_cases ea:a=((N+1:Nat):Int)
      ·rw[ea,e] at t;cases t;omega
      ·have:=hM a d q (by omega) t;omega⟩
    |leaf=>exact⟨M,λa d q ha t=>by
      by_cases ea:a=((N+1:Nat):Int)
      ·rw[ea,e] at t;cases t
      ·exact hM a d q (by omega) t⟩
    |empty=>exact⟨M,λa d q ha t=>by
      by_cases ea:a=((N+1:Nat):Int)
      ·rw[ea,e] at t;cases t
      ·exact hM a d q (by omega) t⟩
    |bT _ _=>exact⟨M,λa d q ha t=>by
      by_cases ea:a=((N+1:Nat):Int)
      ·rw[ea,e] at t;cases t
      ·exact hM a d q (by omega) t⟩
    |ek _ _ _ _=>exact⟨M,λa d q ha t=>by
      by_cases ea:a=((N+1:Nat):Int)
      ·rw[ea,e] at t;cases t
      ·exact hM a d q (by omega) t⟩
 obtain⟨M,hM⟩:=key m.cs.length;refine⟨M,λa d q t=>hM a d q ?_ t⟩
 have h1:=h.room _ _ t;have h2:1≤(Rec.inner d q).size:=by simp[Rec.size]
 omega
structure Xn (G:Ga) (P:List Nat→Prop) (l:List (Int×Int)):Prop where
 und:iy G P (l.map Prod.snd)
 own: ∀e∈l,∃q,aQ G e.2 e.1 q∧G.nz e.2
theorem Gb (h:bs G m){M:Nat}(hM: ∀a d q,G.ty a=some (.inner d q)→q.length≤M): ∀(k:Nat) (p:List Nat) (w:Int),M+1≤p.length+k→da G p w→∃l,eN m w l∧Xn G (λq=>∃j,p++[j] <+:q) l:=by
 intro k;induction k with
 |zero=>
  intro p w hk fw;have no: ∀a d,¬G.ty a=some (.inner d p):=λa d t=>by have:=hM a d p t;omega
  rcases fw.2 with a|a|⟨_,d,t,_⟩|⟨_,c,s,o,d,_,_,t,_⟩
  ·exact⟨[],.none (by omega) (by omega),⟨List.nodup_nil,λs hs=>by cases hs⟩,λe he=>by cases he⟩
  ·exact⟨[],.none (by omega) (by omega),⟨List.nodup_nil,λs hs=>by cases hs⟩,λe he=>by cases he⟩
  ·exact absurd t (no _ _)
  ·exact absurd t (no _ _)
 |succ k ih=>
  have inn: ∀(p:List Nat) (a:Int) (d:Nat),M+1≤p.length+(k+1)→G.ty a=some (.inner d p)→full G a d→∃l,F9 m a (m.at a) 0 l∧Xn G (λq=>∃j,p++[j] <+:q) l:=by
   intro p a d hk t hf;obtain⟨e,d1,d2,c1⟩:=h.Xa t;have loop: ∀(r i:Nat),i+r=d→∃l,F9 m a d i l∧Xn G (λq=>∃j,i≤j∧p++[j] <+:q) l:=by
    intro r;induction r with
    |zero=>
     intro i hi;exact⟨[],.done (by omega),⟨List.nodup_nil,λs hs=>by cases hs⟩,λe he=>by cases he⟩
    |succ r ihr=>
     intro i hi;obtain⟨l',b',u',o'⟩:=ihr (i+1) (by omega)
     have ec:dh a d i=bV a d i:=by rw[jX c1 d2 ⟨by omega,by omega⟩,Int.toNat_natCast]
     have so:aQ G (bV a d i) a (p++[i]):=aQ.mk' t (by omega)
     have fl:=h.TP so (hf i (by omega))
     obtain⟨l,b,u,o⟩:=ih (p++[i]) _ (by simp;omega) fl
     have u0:iy G (λq=>q=p++[i]) [bV a d i]:=⟨by simp,λs hs=>by
      rw[List.mem_singleton] at hs;subst hs;exact⟨a,_,so,rfl⟩⟩
     have u1:iy G (λq=>p++[i] <+:q) ([bV a d i]++l.map Prod.snd):=iy.app h u0 u (by
      rintro q rfl ⟨j,hj⟩;have:=hj.length_le;simp at this) (by rintro q rfl;exact List.prefix_refl _) (by
      rintro q ⟨j,hj⟩;exact(List.prefix_append _ _).trans hj)
     have u2:iy G (λq=>∃j,i≤j∧p++[j] <+:q) (([bV a d i]++l.map Prod.snd)++l'.map Prod.snd):=iy.app h u1 u' (by
      rintro q hq ⟨j,hj,fH⟩;have:=jh hq fH;omega) (by intro q hq;exact⟨i,Nat.le_refl _,hq⟩) (by
      rintro q ⟨j,hj,fH⟩;exact⟨j,by omega,fH⟩)
     refine⟨(a,dh a d i)::(l++l'),.next (by omega) (by rw[ec];exact b) b',?_,?_⟩
     ·rw[ec];simpa using u2
     ·intro e he;rcases List.mem_cons.1 he with rfl|he
      ·rw[ec];exact⟨_,so,hf i (by omega)⟩
      ·rcases List.mem_append.1 he with he|he
       ·exact o e he
       ·exact o' e he
   obtain⟨l,b,u,o⟩:=loop d 0 (by omega)
   rw[e];exact⟨l,b,⟨u.1,λs hs=>by
    obtain⟨o1,q,so,j,_,hj⟩:=u.2 s hs;exact⟨o1,q,so,j,hj⟩⟩,o⟩
  intro p w hk fw;rcases fw.2 with a|a|⟨a,d,t,f⟩|⟨a,c,s,o,d,tr,so,t,f⟩
  ·exact⟨[],.none (by omega) (by omega),⟨List.nodup_nil,λs hs=>by cases hs⟩,λe he=>by cases he⟩
  ·exact⟨[],.none (by omega) (by omega),⟨List.nodup_nil,λs hs=>by cases hs⟩,λe he=>by cases he⟩
  ·obtain⟨l,b,bp⟩:=inn p _ d hk t f;exact⟨l,.inner a b,bp⟩
  ·obtain⟨l,b,bp⟩:=inn p c d hk t f;obtain⟨_,_,_,_,_,_,k3,kc,_⟩:=h.ij _ _ tr;exact⟨l,.reb a k3 (.inner k3 (by rw[kc];exact b)),bp⟩
theorem Gc (h:bs G m)(t0:G.ty 1=some (.inner 1 []))(hf:full G 1 1): ∃l,eN m (lf m 6) l∧((1,6)::l).length≤m.cs.length∧∀e∈((1,6)::l:List (Int×Int)),∃q,aQ G e.2 e.1 q∧G.nz e.2:=by
 obtain⟨M,hM⟩:=h.deep;have so:aQ G 6 1 [0]:=⟨1,[],0,t0,by omega,rfl,rfl⟩
 have hz:G.nz 6:=hf 0 (by omega)
 obtain⟨l,b,u,o⟩:=Gb h hM (M+1) [0] _ (by simp) (h.TP so hz)
 have u0:iy G (λq=>q=[0]) [6]:=⟨by simp,λs hs=>by
  rw[List.mem_singleton] at hs;subst hs;exact⟨1,_,so,rfl⟩⟩
 have u1:iy G (λ_=>True) ([6]++l.map Prod.snd):=iy.app h u0 u (by
  rintro q rfl ⟨j,hj⟩;have:=hj.length_le;simp at this) (λ_ _=>trivial) λ_ _=>trivial
 refine⟨l,b,?_,?_⟩
 ·have:=u1.len h
  simpa using this
 ·intro e he;rcases List.mem_cons.1 he with rfl|he
  ·exact⟨_,so,hz⟩
  ·exact o e he
def Ga.none:Ga:=⟨λ_=>Option.none,λ_=>False,λ_=>False,λ_ _=>False,λ_=>False,λ_=>False,λ_ _=>False⟩
theorem OL {mx:Nat}(h:mx≤16384):bs Ga.none ⟨[],mx⟩ where
 room:=λ_ _ k=>nomatch k
 Om:=λ_ _ _ _ k=>nomatch k
 ij:=λ_ _ k=>nomatch k
 dx:=λ_ _ k=>False.elim k
 lS:=λ_ k=>False.elim k
 inst:=λ_ k=>False.elim k
 fresh:=⟨λ_ k=>False.elim k,λ_ k=>False.elim k,λ_ _ k=>False.elim k⟩
 top:=⟨Nat.zero_le _,h⟩
structure Calm (G:Ga):Prop where
 inst: ∀e,¬G.inst e
 dx: ∀s w,¬G.dx s w
 lS: ∀e,¬G.lS e
theorem Calm.make {G:Ga}{a:Int}{r:Rec}{ws:List Int}(h:Calm G):Calm (G.make a r ws):=⟨h.inst,h.dx,h.lS⟩
theorem Lw {mx:Nat}(h:7≤mx∧mx≤16384): ∃G,bs G ⟨[1,0,0,0,0,57,0],mx⟩∧G.ty 1=some (.inner 1 [])∧full G 1 1∧Calm G:=by
 have i0:=OL (mx:=mx) h.2;have e1:cP 0 [] [0]=[1,0,0,0,0,0]:=by decide
 have i1:=i0.make (r:=.inner 1 []) (ws:=[1,0,0,0,0,0]) ⟨by omega,0,[],[0],e1.symm,rfl,rfl,λi hi=>.inl (by
  have:i=0:=by omega
  subst this;rfl)⟩ (by simp;omega)
 have i2:=i1.make (r:=.empty) (ws:=[0]) rfl (by simp;omega)
 have c0:Calm Ga.none:=⟨λ_ k=>k,λ_ _ k=>k,λ_ k=>k⟩
 have c2:Calm _:=(c0.make (a:=1) (r:=.inner 1 []) (ws:=[1,0,0,0,0,0])).make (a:=7) (r:=.empty) (ws:=[0]);have so:aQ (((Ga.none).make 1 (.inner 1 []) [1,0,0,0,0,0]).make 7 .empty [0]) 6 1 [0]:=⟨1,[],0,by simp[Ga.make],by omega,by decide,rfl⟩
 have i3:=bs.part (s:=6) (x:=57) i2 so (by rfl) ⟨⟨by omega,.empty,by simp[Ga.make,show aw 57=7 by decide]⟩,.inl (by decide)⟩
 refine⟨_,i3,?_,?_,⟨c2.inst,c2.dx,c2.lS⟩⟩
 ·simp[Ga.make,Ga.K7]
 ·intro i hi;have:i=0:=by omega
  subst this;exact .inr (by decide)
theorem bs.El {G:Ga}{m:Mm}{s o x:Int}{p:List Nat}(h:bs G m)(hc:Calm G)(so:aQ G s o p)(hz:G.nz s)(hx:da G p x):bs G (m.set s x):=
 h.vH (Ga.le.refl G) rfl so (λ_ k=>.inl k) rfl rfl ⟨hx.1.1,.inr ⟨hz,.inl hx⟩⟩ (λ_ _ _ _=>.inl id) (λe _ _ _ _ k=>absurd k (hc.inst e)) rfl rfl (λw k=>absurd k (hc.dx s w)) h.lS h.inst
def OM (m:Mm)(ws:List Int):Int×Mm:=eB m (.mk ws)
mutual
def dJ:Nat→PL→Mm→Int×Mm
 |0,_,m=>(0,m)
 |f+1,l,m=>
  match l with
  | []=>let r:=OM m [0];(fI 1 r.1,r.2)
  | [kv]=>let r:=OM m [kv.1,kv.2];(fI 2 r.1,r.2)
  |l=>il f l (bo l.length).toNat 0 0 [] [] m
def il:Nat→PL→Nat→Nat→Nat→List Int→List Int→Mm→Int×Mm
 |_,l,0,_,_,q,c,m=>let r:=OM m (cP l.length q c);(fI 3 r.1,r.2)
 |f,l,r+1,i,dS,q,c,m=>
  let s:=(b9 l.length i).toNat
  let q':=if i>0 then q++[(l.getD dS (0,0)).1] else q
  let w:=dJ f ((l.drop dS).take s) m
  il f l r (i+1) (dS+s) q' (c++[w.1]) w.2
end
end Go.Proofs.YtgfgglponbmgmaaGreatA.Y
end
section
namespace Go.Proofs.YtgfgglponbmgmaaGreat.Fun
open Go Go.RowKit Go.Proofs.YtgfgglponbmgmaaGreatA.Am
set_option maxRecDepth 10000
section
open Go.Proofs.YtgfgglponbmgmaaGreatA
variable {G:ae} {H H':aa} {o o':aj} {mp:Nat} {m:Y.Mm}
def qj (H:aa)(mp:Nat)(m:Y.Mm):Prop:=∃(a b c d s:Value) (ty:TypeId),H.get mp=some ⟨[a,s,b,c,d],ty,1,false⟩∧eG H s m.cs
theorem CN (h:qj H mp m)(hl:m.cs.length≤65536)(a:Int):aE (run G) 33 [pv mp,cv a] H (Is H (cv (m.at a))):=by
 refine Ev.up (t:=λk=>F33 (run G k) k (pv mp) (cv a) H) ?_ λk=>V5 ..
 obtain⟨_,_,_,_,s,ty,g,hs⟩:=h;have M1:aq (.pointer (some ⟨mp,1,none⟩)) H=some s:=ao mp 1 H g;simp -implicitDefEqProofs only[F33,M1,hs.len,sS,Nat.reduceAdd];refine Ev.lss (λhq=>?_) (λhq=>?_)<;>try simp -implicitDefEqProofs only[M1,hs.len,sS,Nat.reduceAdd]
 ·refine Ev.ret ⟨?_,rfl⟩;unfold Y.Mm.at;rw[if_neg (by unfold Y.Mm.used;omega)]
 refine Ev.gtr (λkt=>?_) (λkt=>?_)<;>try simp -implicitDefEqProofs only[M1,hs.len,sS,Nat.reduceAdd]
 ·refine Ev.ret ⟨?_,rfl⟩;unfold Y.Mm.at;rw[if_neg (by unfold Y.Mm.used;omega)]
 ·obtain⟨j,hj⟩: ∃j:Nat,a-1=j:=⟨(a-1).toNat,by omega⟩
  have hw:IntKind.i64.wrap (a-1)=(j:Int):=by rw[fL (by omega),hj]
  obtain⟨q,off,b,ZJ,hb,ZK⟩:=hs.idx (show j<m.cs.length by omega)
  have LT:=ao q off H hb;rw[ZK] at LT;simp -implicitDefEqProofs only[hw,ZJ,LT,sS,Nat.reduceAdd];refine Ev.ret ⟨?_,rfl⟩;have ej:(a-1).toNat=j:=by omega
  unfold Y.Mm.at;rw[if_pos (by unfold Y.Mm.used;omega),ej]
theorem vJ (h:qj H mp m)(hl:m.cs.length≤65536)(a:Int):aE (run G) 53 [pv mp,cv a] H (Is H (cv (Y.lf m a))):=by
 refine Ev.up (t:=λk=>F53 (run G k) k (pv mp) (cv a) H) ?_ λk=>WJ ..
 simp -implicitDefEqProofs only[F53,sS,Nat.reduceAdd];refine Ev.is (CN h hl a) ?_
 try simp -implicitDefEqProofs only[sS,Nat.reduceAdd]
 refine Ev.is (gV _) ?_
 try simp -implicitDefEqProofs only[sS,Nat.reduceAdd]
 refine Ev.neq (λh1=>?_) (λh1=>?_)<;>try simp -implicitDefEqProofs only[sS,Nat.reduceAdd]
 ·exact Ev.ret ⟨by unfold Y.lf;rw[if_pos h1],rfl⟩
 refine Ev.is (nX _) ?_;simp -implicitDefEqProofs only[LW _ (j:=4) (by omega),LW _ (j:=3) (by omega),LW _ (j:=2) (by omega),sS,Nat.reduceAdd]
 refine Ev.is (CN h hl _) ?_
 try simp -implicitDefEqProofs only[sS,Nat.reduceAdd]
 refine Ev.eql (λh2=>?_) (λh2=>?_)<;>try simp -implicitDefEqProofs only[LW _ (j:=3) (by omega),LW _ (j:=2) (by omega),sS,Nat.reduceAdd]
 ·refine Ev.is (CN h hl _) ?_
  try simp -implicitDefEqProofs only[sS,Nat.reduceAdd]
  exact Ev.ret ⟨by unfold Y.lf;rw[if_neg (by simp[h1]),if_pos h2],rfl⟩
 ·refine Ev.is (CN h hl _) ?_
  try simp -implicitDefEqProofs only[sS,Nat.reduceAdd]
  exact Ev.ret ⟨by unfold Y.lf;rw[if_neg (by simp[h1]),if_neg h2],rfl⟩
section
variable {B:aa} {b:aj} {t:Int}
theorem qj.fr (h:qj B mp m)(f:Fr B b H o []):qj H mp m:=by
 obtain⟨a1,a2,a3,a4,s,ty,g,hs⟩:=h;refine⟨a1,a2,a3,a4,s,ty,by rw[f.same mp (ar g) (by simp)];exact g,hs.keep λi bb e dy=>?_⟩
 rcases hs with⟨e1,e2⟩|⟨j,off,cc,e1,hb⟩
 ·exact absurd e2 dy
 ·obtain⟨bb,g1,_⟩:=hb dy;rw[e1] at e;cases e;exact f.same j (ar g1) (by simp)
theorem TQ (a b:Int):aF Tryz.prog 69 [(0,cv a),(1,cv b)]=some (.agg #[cv a,cv b]):=by kernel_rfl
theorem TR (a b:Int)(H:aa):ay Tryz.prog 93 1 [(0,.agg #[cv a,cv b])] H=some (.slice (some ⟨H.length,0,none⟩) 1 1,H.new ⟨[cv a,cv b],69,2,false⟩):=by kernel_rfl
theorem R6 (hm:qj B mp m)(hl:m.cs.length≤65536)(ht: ∀i,i<B.length→b i≠t): ∀(n:Nat) {w:Int} {l:List (Int×Int)},2*l.length+(if Y.kd w=4 then 1 else 0)=n→Y.eN m w l→∀{H:aa} {o:aj} {x:Value} {L:PL},Fr B b H o []→gS H o t x L→L.length+l.length≤1000000→aE (run G) 81 [pv mp,cv w,x] H λv H'=>∃o',Fr B b H' o' []∧gS H' o' t v (L++l):=by
 intro n;induction n using Nat.strongRecOn with
 |ind n ih=>
 intro w l hn hB H o x L f hs hb;have hmH:=hm.fr f;refine Ev.up (t:=λk=>F81 (run G k) k (pv mp) (cv w) x H) ?_ λk=>WN ..
 simp -implicitDefEqProofs only[F81,sS,Nat.reduceAdd];refine Ev.is (nX _) ?_
 try simp -implicitDefEqProofs only[sS,Nat.reduceAdd]
 refine Ev.is (gV _) ?_
 try simp -implicitDefEqProofs only[sS,Nat.reduceAdd]
 cases hB with
 |none h3 h4=>
  refine Ev.eql (λh=>absurd h h4) (λ_=>?_)
  try simp -implicitDefEqProofs only[sS,Nat.reduceAdd]
  refine Ev.eql (λh=>absurd h h3) (λ_=>?_)
  simp -implicitDefEqProofs only[DU,vz,sS,Nat.reduceAdd];exact Ev.ret ⟨o,f,by simpa using hs⟩
 |reb h4 h3 h=>
  refine Ev.eql (λ_=>?_) (λh=>absurd h4 h)
  try simp -implicitDefEqProofs only[sS,Nat.reduceAdd]
  refine Ev.is (CN hmH hl _) ?_
  try simp -implicitDefEqProofs only[sS,Nat.reduceAdd]
  rw[if_pos h4] at hn;refine Ev.call (ih (2*l.length) (by omega) (by rw[if_neg (by omega)];omega) h f hs hb) ?_
  rintro v H' hq
  try simp -implicitDefEqProofs only[sS,Nat.reduceAdd]
  exact Ev.ret hq
 |inner h3 hL=>
  refine Ev.eql (λh=>by omega) (λ_=>?_)
  try simp -implicitDefEqProofs only[sS,Nat.reduceAdd]
  refine Ev.eql (λ_=>?_) (λh=>absurd h3 h)
  try simp -implicitDefEqProofs only[sS,Nat.reduceAdd]
  refine Ev.is (CN hmH hl _) ?_
  try simp -implicitDefEqProofs only[sS,Nat.reduceAdd]
  rw[if_neg (by omega)] at hn
  refine Ev.loop (I:=λk vs H1=>∃(i:Int) (x1 v6 bq bY kU v30 v10:Value) (o1:aj) (L1 rest:PL),k=rest.length∧0≤i∧i+rest.length≤l.length∧vs=[pv mp,cv w,x1,v6,bq,bY,cv (Y.aw w),kU,cv i,cv (m.at (Y.aw w)),v30,v10]∧Y.F9 m (Y.aw w) (m.at (Y.aw w)) i rest∧L1++rest=L++l∧Fr B b H1 o1 []∧gS H1 o1 t x1 L1)
   (R:=λr=>r.1= .exit 1∧∃(x1 v6 bq bY kU v30 v10 v9 v8:Value) (o1:aj),r.2.1=[pv mp,cv w,x1,v6,bq,bY,cv (Y.aw w),kU,v9,v8,v30,v10]∧Fr B b r.2.2 o1 []∧gS r.2.2 o1 t x1 (L++l)) (k:=l.length) ?_ ?_ ?_
  ·exact⟨0,_,_,_,_,_,_,_,o,L,l,rfl,by omega,by omega,rfl,hL,rfl,f,hs⟩
  ·rintro k vs H1 ⟨i,x1,v6,bq,bY,kU,v30,v10,o1,L1,rest,rfl,i0,ib,rfl,hr,e1,f1,s1⟩;have le:=congrArg List.length e1;simp only[List.length_append] at le;simp -implicitDefEqProofs only[NZ,Cn,sS,Nat.reduceAdd];cases hr with
   |done hd=>
    refine Ev.lss (λh=>absurd h hd) (λ_=>?_)
    try simp -implicitDefEqProofs only[sS,Nat.reduceAdd]
    refine Ev.ret (.inr ⟨by simp,rfl,_,_,_,_,_,_,_,_,_,o1,rfl,f1,?_⟩)
    rw[←e1];simpa using s1
   |next hd Uv uD=>
    rename_i la lb;simp only[List.length_cons,List.length_append] at le ib;refine Ev.lss (λ_=>?_) (λh=>absurd hd h)
    try simp -implicitDefEqProofs only[sS,Nat.reduceAdd]
    refine Ev.is (kK _ _ _) ?_;simp -implicitDefEqProofs only[TQ,TR,sS,Nat.reduceAdd];have g1':Fr H1 o1 (H1.new ⟨[cv (Y.aw w),cv (Y.dh (Y.aw w) (m.at (Y.aw w)) i)],69,2,false⟩) (o1.up H1.length (-9)) []:=(Fr.refl H1 o1 []).new _ _;obtain⟨x',H2,o2,e,s2,f2,_⟩:=gS.app (y:=.slice (some ⟨H1.length,0,none⟩) 1 1) (m:=[(Y.aw w,Y.dh (Y.aw w) (m.at (Y.aw w)) i)]) 69 (gS.fr s1 g1' (by simp)) (Src.one (aL)) (by simp only[List.length_singleton];omega)
    rw[e];have f3:Fr B b H2 o2 []:=iD ((f1.wk (ps:=[]) (qs:=[t]) (by simp)).tr ((g1'.wk (by simp)).tr f2)) ht
    try simp -implicitDefEqProofs only[sS,Nat.reduceAdd]
    refine Ev.is (vJ (hm.fr f3) hl _) ?_
    try simp -implicitDefEqProofs only[sS,Nat.reduceAdd]
    refine Ev.call (ih (2*la.length+(if Y.kd (Y.lf m (Y.dh (Y.aw w) (m.at (Y.aw w)) i))=4 then 1 else 0)) (by split<;>omega) rfl Uv f3 s2 (by simp;omega)) ?_
    rintro v H3 ⟨o3,f4,s3⟩;simp -implicitDefEqProofs only[fL (show -9223372036854775808≤i+1∧i+1≤9223372036854775807 by omega),sS,Nat.reduceAdd]
    refine Ev.ret (.inl ⟨rfl,lb.length,by simp;omega,i+1,_,_,_,_,_,_,_,o3,_,lb,rfl,by omega,by omega,rfl,uD,?_,f4,s3⟩)
    rw[←e1];simp
  ·rintro e vs H1 ⟨he,x1,v6,bq,bY,kU,v30,v10,v9,v8,o1,hv,f1,s1⟩;simp only at he hv f1 s1;subst he hv;simp -implicitDefEqProofs only[DU,vz,sS,Nat.reduceAdd];exact Ev.ret ⟨o1,f1,s1⟩
end
end
end Go.Proofs.YtgfgglponbmgmaaGreat.Fun
end
