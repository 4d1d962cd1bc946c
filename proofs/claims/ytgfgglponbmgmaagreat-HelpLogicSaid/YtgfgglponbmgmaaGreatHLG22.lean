/- Texts of the proof of helpLogic_holds, put together by a small program of ours (names shortened, spaces taken out). No condition beyond the given statement. -/
import Derived.Test.YtgfgglponbmgmaaGreatHLG20
set_option linter.unusedVariables false
set_option linter.unusedSimpArgs false
set_option linter.unnecessarySimpa false
noncomputable section
section
namespace Go.Proofs.YtgfgglponbmgmaaGreatA.Y
structure Mm where
 cs:List Int
 max:Nat
def Mm.used (m:Mm)(a:Int):Prop:=1≤a∧a≤m.cs.length
instance (m:Mm) (a:Int):Decidable (m.used a):=by unfold Mm.used;infer_instance
def Mm.at (m:Mm)(a:Int):Int:=if m.used a then m.cs.getD (a-1).toNat 0 else 0
def Mm.set (m:Mm)(a x:Int):Mm:=if m.used a then⟨m.cs.set (a-1).toNat x,m.max⟩ else m
def eB (m:Mm):Ask→Int×Mm
 | .rd a=>(m.at a,m)
 | .wr a x=>(0,m.set a x)
 | .cs a o x=>if m.used a∧m.at a=o then(1,m.set a x) else(0,m)
 | .ad a d=>if m.used a then(m.at a,m.set a (wr (m.at a+d))) else(0,m)
 | .mk w=>if w=[]∨w.length+m.cs.length>m.max then(0,m) else(m.cs.length+1,⟨m.cs++w,m.max⟩)
@[simp] theorem vF (m:Mm)(a x:Int):(m.set a x).cs.length=m.cs.length:=by
 unfold Mm.set;split<;>simp
@[simp] theorem Il (m:Mm)(a x:Int):(m.set a x).max=m.max:=by
 unfold Mm.set;split<;>simp
theorem yM (m:Mm)(a x b:Int):(m.set a x).used b↔m.used b:=by simp[Mm.used]
theorem gD {m:Mm}{a x:Int}(h:m.used a):(m.set a x).at a=x:=by
 have h':=(yM m a x a).2 h;unfold Mm.at;rw[if_pos h'];unfold Mm.set;rw[if_pos h];unfold Mm.used at h;simp only[List.getD_eq_getElem?_getD];rw[List.getElem?_set_self (by omega)];rfl
theorem aH {m:Mm}{a x b:Int}(h:b≠a):(m.set a x).at b=m.at b:=by
 unfold Mm.at;by_cases hb:m.used b
 ·rw[if_pos ((yM m a x b).2 hb),if_pos hb];unfold Mm.set;split
  ·next ha=>
   unfold Mm.used at ha hb;simp only[List.getD_eq_getElem?_getD];rw[List.getElem?_set_ne (by omega)]
  ·rfl
 ·rw[if_neg (λh=>hb ((yM m a x b).1 h)),if_neg hb]
theorem FW {cs w:List Int}{mx:Nat}{b:Int}(h:b≤cs.length):(Mm.mk (cs++w) mx).at b=(Mm.mk cs mx).at b:=by
 unfold Mm.at;by_cases h1:1≤b
 ·have u1:(Mm.mk (cs++w) mx).used b:=⟨h1,by simp;omega⟩
  have u2:(Mm.mk cs mx).used b:=⟨h1,h⟩;rw[if_pos u1,if_pos u2];simp only[List.getD_eq_getElem?_getD];rw[List.getElem?_append_left (by omega)]
 ·have u1: ¬(Mm.mk (cs++w) mx).used b:=λk=>h1 k.1
  have u2: ¬(Mm.mk cs mx).used b:=λk=>h1 k.1
  rw[if_neg u1,if_neg u2]
theorem Ol {cs w:List Int}{mx:Nat}{j:Nat}(h:j<w.length):(Mm.mk (cs++w) mx).at (cs.length+1+j)=w.getD j 0:=by
 have u1:(Mm.mk (cs++w) mx).used (cs.length+1+j):=⟨by omega,by simp;omega⟩
 unfold Mm.at;rw[if_pos u1];simp only[List.getD_eq_getElem?_getD];rw[List.getElem?_append_right (by omega)]
 congr 2;omega
inductive Rec where
 |leaf
 |empty
 |inner (d:Nat) (path:List Nat)
 |bT (c s:Int)
 |ek (s old new:Int) (by':Nat)
def Rec.size:Rec→Nat
 | .leaf=>2
 | .empty=>1
 | .inner d _=>2*d+4
 | .bT .. =>5
 | .ek .. =>5
structure Ga where
 ty:Int→Option Rec
 nz:Int→Prop
 shut:Int→Prop
 dx:Int→Int→Prop
 inst:Int→Prop
 lS:Int→Prop
 pC:Int→Int→Prop
structure Ga.le (G G':Ga):Prop where
 ty: ∀a r,G.ty a=some r→G'.ty a=some r
 nz: ∀s,G.nz s→G'.nz s
 shut: ∀c,G.shut c→G'.shut c
 dx: ∀s w,G.dx s w→G'.dx s w
 inst: ∀e,G.inst e→G'.inst e
 lS: ∀e,G.lS e→G'.lS e
 pC: ∀e o,G.pC e o→G'.pC e o
theorem Ga.le.refl (G:Ga):G.le G:=⟨λ_ _ h=>h,λ_ h=>h,λ_ h=>h,λ_ _ h=>h,λ_ h=>h,λ_ h=>h,λ_ _ h=>h⟩
theorem Ga.le.trans {A B C:Ga}(h:A.le B)(k:B.le C):A.le C:=
 ⟨λa r x=>k.ty a r (h.ty a r x),λa x=>k.nz a (h.nz a x),λa x=>k.shut a (h.shut a x),λa b x=>k.dx a b (h.dx a b x),λa x=>k.inst a (h.inst a x),λa x=>k.lS a (h.lS a x),λa b x=>k.pC a b (h.pC a b x)⟩
def bV (c:Int)(d i:Nat):Int:=c+4+d+i
def aQ (G:Ga)(s o:Int)(p:List Nat):Prop:=∃d q i,G.ty o=some (.inner d q)∧i<d∧s=bV o d i∧p=q++[i]
def full (G:Ga)(c:Int)(d:Nat):Prop:=∀i,i<d→G.nz (bV c d i)
def nZ (G:Ga)(w:Int):Prop:=w≤524296∧∃r,G.ty (aw w)=some r
def da (G:Ga)(p:List Nat)(w:Int):Prop:=
 nZ G w∧(kd w=1∨kd w=2∨(kd w=3∧∃d,G.ty (aw w)=some (.inner d p)∧full G (aw w) d)∨
 (kd w=4∧∃c s o d,G.ty (aw w)=some (.bT c s)∧aQ G s o p∧G.ty c=some (.inner d p)∧full G c d))
def AO (G:Ga)(s:Int)(p:List Nat)(w:Int):Prop:=
 w≤524296∧((w=0∧¬G.nz s)∨(G.nz s∧(da G p w∨(kd w=5∧G.inst (aw w)∧∃old new b,G.ty (aw w)=some (.ek s old new b)))))
mutual
inductive sk (G:Ga):Int→Nat→Prop where
 |mk {c d p n} (h:G.ty c=some (.inner d p)) (hs:G.shut c) (k:gi G c d d n):sk G c n
inductive gi (G:Ga):Int→Nat→Nat→Nat→Prop where
 |zero {c d}:gi G c d 0 0
 |leaf {c d i n w} (h:gi G c d i n) (hf:G.dx (bV c d i) w) (hk:kd w=2):gi G c d (i+1) (n+1)
 |inner {c d i n w k} (h:gi G c d i n) (hf:G.dx (bV c d i) w) (hk:kd w=3) (hc:sk G (aw w) k):gi G c d (i+1) (n+k)
 |bT {c d i n w k c' s} (h:gi G c d i n) (hf:G.dx (bV c d i) w) (hk:kd w=4) (ht:G.ty (aw w)=some (.bT c' s)) (hc:sk G c' k):gi G c d (i+1) (n+k)
 |empty {c d i n w} (h:gi G c d i n) (hf:G.dx (bV c d i) w) (hk:kd w=1):gi G c d (i+1) n
end
def zQ (G:Ga)(c:Int)(p:List Nat)(x:Int):Prop:=
 x≤524296∧∃n,sk G c n∧(n≥2→kd x=3∧G.ty (aw x)=some (.inner (max (bo n) 1).toNat p))∧(n<2→da G p x)
def W9 (G:Ga)(f:Int→Int)(e s:Int):Prop:=
 (f (e+4)=0∧(G.inst e→f s=fI 5 e))∨(f (e+4)=1∧G.inst e∧G.lS e)∨(f (e+4)=2∧G.inst e)
def zR (G:Ga)(f:Int→Int)(c:Int):Rec→Prop
 | .leaf=>True
 | .empty=>True
 | .inner d p=>1≤d∧f c=d∧((f (c+2)=0∧¬G.shut c)∨(f (c+2)=1∧G.shut c))∧(f (c+4)=0∨∃n:Nat,f (c+4)=n+1∧sk G c n)∧
   ∀i,i<d→AO G (bV c d i) (p++[i]) (f (bV c d i))
 | .bT t s=>∃o p d,aQ G s o p∧G.ty t=some (.inner d p)∧full G t d∧kd (f c)=3∧aw (f c)=t∧f (c+1)=o+2∧f (c+2)=s∧((f (c+3)=0∧¬G.nz (c+3))∨(f (c+3)≠0∧G.nz (c+3)∧zQ G t p (f (c+3))))
 | .ek s old new _=>∃o p,aQ G s o p∧da G p old∧da G p new∧f c=o+2∧f (c+1)=s∧f (c+2)=old∧f (c+3)=new∧W9 G f c s∧∀o,G.pC c o↔(f (c+4)=o∧o≠0)
structure oR (G:Ga) (f:Int→Int) (s w:Int):Prop where
 fit: ∃o p,aQ G s o p∧G.shut o∧da G p w
 now:f s=w∨(kd (f s)=5∧∃new b,G.ty (aw (f s))=some (.ek s w new b)∧f (aw (f s)+4)≠1)
 old: ∀e old new b,G.ty e=some (.ek s old new b)→G.lS e→f (e+4)≠0
structure bs (G:Ga) (m:Mm):Prop where
 room: ∀a r,G.ty a=some r→1≤a∧a+r.size≤m.cs.length+1
 Om: ∀a r b q,G.ty a=some r→G.ty b=some q→a≠b→a+r.size≤b∨b+q.size≤a
 ij: ∀c r,G.ty c=some r→zR G m.at c r
 dx: ∀s w,G.dx s w→oR G m.at s w
 lS: ∀e,G.lS e→G.inst e
 inst: ∀e,G.inst e→∃s old new b,G.ty e=some (.ek s old new b)
 fresh:(∀s,G.nz s→s≤m.cs.length)∧(∀c,G.shut c→c≤m.cs.length)∧(∀e o,G.pC e o→e≤m.cs.length)
 top:m.cs.length≤m.max∧m.max≤16384
variable {G G':Ga} {m:Mm} {f f':Int→Int} {c s o:Int} {p:List Nat} {w:Int}
theorem yN {k a:Int}(hk:1≤k∧k≤5)(ha:1≤a∧a≤65536):fM (fI k a)=true:=by
 unfold fI fM wr;rw[if_neg (by omega)]
 simp;omega
theorem ik {k a:Int}(hk:1≤k∧k≤5)(ha:1≤a∧a≤65536):kd (fI k a)=k:=by
 unfold kd;rw[if_pos (yN hk ha)];unfold fI;rw[if_neg (by omega)];omega
theorem iO {k a:Int}(hk:1≤k∧k≤5)(ha:1≤a∧a≤65536):aw (fI k a)=a:=by
 unfold aw;rw[if_pos (yN hk ha)];unfold fI wr;rw[if_neg (by omega)];omega
theorem sq:kd 0=0:=by decide
theorem nM (w:Int): -9223372036854775808≤aw w∧aw w≤65536:=by
 unfold aw;split
 ·next hr=>simp[fM] at hr;unfold wr at *;omega
 ·omega
theorem da.kd (h:da G p w):kd w=1∨kd w=2∨kd w=3∨kd w=4:=by
 rcases h.2 with h|h|⟨h,_⟩|⟨h,_⟩<;>simp[h]
theorem FX (k a:Int):fI k a≤524296:=by unfold fI;split<;>omega
theorem da.PJ (h:da G p w):Y.kd w≠5:=by have:=h.kd;omega
theorem da.Tw (h:da G p w):w≠0:=by
 rintro rfl;have:=h.kd;rw[sq] at this;omega
theorem aQ.mono (g:G.le G')(h:aQ G s o p):aQ G' s o p:=by
 obtain⟨d,q,i,h1,h2⟩:=h;exact⟨d,q,i,g.ty _ _ h1,h2⟩
theorem full.mono {d:Nat}(g:G.le G')(h:full G c d):full G' c d:=λi hi=>g.nz _ (h i hi)
theorem nZ.mono (g:G.le G')(h:nZ G w):nZ G' w:=by
 obtain⟨h1,r,h2⟩:=h;exact⟨h1,r,g.ty _ _ h2⟩
theorem nZ.fI {k a:Int}{r:Rec}(hk:1≤k∧k≤5)(ha:1≤a∧a≤65536)(h:G.ty a=some r):nZ G (fI k a):=⟨FX _ _,r,by rw[iO hk ha];exact h⟩
theorem da.mono (g:G.le G')(h:da G p w):da G' p w:=by
 refine⟨h.1.mono g,?_⟩;rcases h.2 with h|h|⟨h,d,h1,h2⟩|⟨h,c,s,o,d,h1,h2,h3,h4⟩
 ·exact .inl h
 ·exact .inr (.inl h)
 ·exact .inr (.inr (.inl ⟨h,d,g.ty _ _ h1,full.mono g h2⟩))
 ·exact .inr (.inr (.inr ⟨h,c,s,o,d,g.ty _ _ h1,h2.mono g,g.ty _ _ h3,full.mono g h4⟩))
mutual
theorem sk.mono (g:G.le G'): ∀{c n},sk G c n→sk G' c n
 |_,_,.mk h hs k=>.mk (g.ty _ _ h) (g.shut _ hs) (gi.mono g k)
theorem gi.mono (g:G.le G'): ∀{c d i n},gi G c d i n→gi G' c d i n
 |_,_,_,_,.zero=>.zero
 |_,_,_,_,.leaf h hf hk=>.leaf (gi.mono g h) (g.dx _ _ hf) hk
 |_,_,_,_,.inner h hf hk hc=>.inner (gi.mono g h) (g.dx _ _ hf) hk (sk.mono g hc)
 |_,_,_,_,.bT h hf hk ht hc=>.bT (gi.mono g h) (g.dx _ _ hf) hk (g.ty _ _ ht) (sk.mono g hc)
 |_,_,_,_,.empty h hf hk=>.empty (gi.mono g h) (g.dx _ _ hf) hk
end
theorem zQ.mono (g:G.le G')(h:zQ G c p w):zQ G' c p w:=by
 obtain⟨h0,n,h1,h2,h3⟩:=h;exact⟨h0,n,h1.mono g,λk=>⟨(h2 k).1,g.ty _ _ (h2 k).2⟩,λk=>(h3 k).mono g⟩
theorem AO.mono (g:G.le G')(hn:G'.nz s→G.nz s)(h:AO G s p w):AO G' s p w:=by
 refine⟨h.1,?_⟩;rcases h.2 with⟨h1,h2⟩|⟨h1,h2|⟨h2,h3,old,new,b,h4⟩⟩
 ·exact .inl ⟨h1,λk=>h2 (hn k)⟩
 ·exact .inr ⟨g.nz _ h1,.inl (h2.mono g)⟩
 ·exact .inr ⟨g.nz _ h1,.inr ⟨h2,g.inst _ h3,old,new,b,g.ty _ _ h4⟩⟩
theorem bs.cell (h:bs G m){a b:Int}{r q:Rec}(ha:G.ty a=some r)(hb:G.ty b=some q){i j:Int}(hi:0≤i∧i<r.size)(hj:0≤j∧j<q.size)(e:a+i=b+j):a=b:=by
 refine Decidable.byContradiction λdy=>?_
 have:=h.Om a r b q ha hb dy
 omega
theorem aQ.lt (h:aQ G s o p): ∃d q j,G.ty o=some (.inner d q)∧s=o+j∧5≤j∧j<(Rec.inner d q).size:=by
 obtain⟨d,q,i,h1,h2,h3,h4⟩:=h;refine⟨d,q,4+d+i,h1,by rw[h3];unfold bV;omega,?_,?_⟩
 ·omega
 ·simp[Rec.size];omega
theorem aQ.uniq (h:bs G m){o':Int}{p':List Nat}(a:aQ G s o p)(b:aQ G s o' p'):o=o'∧p=p':=by
 obtain⟨d,q,j,h1,h2,h3,h4⟩:=a.lt;obtain⟨d',q',j',k1,k2,k3,k4⟩:=b.lt;have e:=h.cell h1 k1 (i:=j) (j:=j') ⟨by omega,h4⟩ ⟨by omega,k4⟩ (by omega)
 subst e;refine⟨rfl,?_⟩;obtain⟨d,q,i,g1,g2,g3,g4⟩:=a;obtain⟨d',q',i',l1,l2,l3,l4⟩:=b;rw[g1] at l1;cases l1;rw[g4,l4];unfold bV at g3 l3;have:i=i':=by omega
 rw[this]
theorem bs.ZR (h:bs G m)(a:aQ G s o p):AO G s p (m.at s):=by
 obtain⟨d,q,i,h1,h2,h3,h4⟩:=a;have:=(h.ij _ _ h1).2.2.2.2 i h2
 rw[h3,h4];exact this
theorem bs.slot (h:bs G m)(a:aQ G s o p):(m.at s=0∧¬G.nz s)∨(G.nz s∧(da G p (m.at s)∨(kd (m.at s)=5∧G.inst (aw (m.at s))∧∃old new b,G.ty (aw (m.at s))=some (.ek s old new b)))):=(h.ZR a).2
theorem zR.keep {r:Rec}(g:G.le G')(h:zR G f c r)(hf: ∀j:Int,0≤j→j<r.size→f' (c+j)=f (c+j))(LX: ∀d p i,r= .inner d p→i<d→G'.nz (bV c d i)→G.nz (bV c d i))(hnr: ∀t s,r= .bT t s→G'.nz (c+3)→G.nz (c+3))(RQ:G'.shut c→G.shut c)(mj: ∀o,G'.pC c o→G.pC c o)(pd:G'.inst c→G.inst c)(hs: ∀s old new b,r= .ek s old new b→G.inst c→f (c+4)=0→f' s=f s):zR G' f' c r:=by
 have h0: ∀{j:Int},j=0→0<r.size→f' c=f c:=λ_ k=>by have:=hf 0 (by omega) (by omega);simpa using this
 cases r with
 |leaf=>trivial
 |empty=>trivial
 |inner d p=>
  obtain⟨h1,h2,h3,h4,h5⟩:=h;have e2:=hf 2 (by omega) (by simp[Rec.size];omega)
  have e4:=hf 4 (by omega) (by simp[Rec.size];omega)
  refine⟨h1,by rw[h0 rfl (by simp[Rec.size])];exact h2,?_,?_,?_⟩
  ·rw[e2];rcases h3 with⟨a,b⟩|⟨a,b⟩
   ·exact .inl ⟨a,λk=>b (RQ k)⟩
   ·exact .inr ⟨a,g.shut _ b⟩
  ·rw[e4];rcases h4 with a|⟨n,a,b⟩
   ·exact .inl a
   ·exact .inr ⟨n,a,b.mono g⟩
  ·intro i hi;have e:f' (bV c d i)=f (bV c d i):=by
    have:=hf (4+d+i) (by omega) (by simp[Rec.size];omega)
    have e:bV c d i=c+(4+d+i):=by unfold bV;omega
    rw[e];exact this
   rw[e];exact(h5 i hi).mono g (LX d p i rfl hi)
 |bT t s=>
  obtain⟨o,p,d,h1,h2,h3,h4,h5,h6,h7,h8⟩:=h;have e1:=hf 1 (by omega) (by simp[Rec.size])
  have e2:=hf 2 (by omega) (by simp[Rec.size])
  have e3:=hf 3 (by omega) (by simp[Rec.size])
  have e0:=h0 rfl (by simp[Rec.size])
  refine⟨o,p,d,h1.mono g,g.ty _ _ h2,full.mono g h3,by rw[e0];exact h4,by rw[e0];exact h5,by rw[e1];exact h6,by rw[e2];exact h7,?_⟩
  rw[e3];rcases h8 with⟨a,b⟩|⟨a,b,d⟩
  ·exact .inl ⟨a,λk=>b (hnr t s rfl k)⟩
  ·exact .inr ⟨a,g.nz _ b,d.mono g⟩
 |ek s old new b=>
  obtain⟨o,p,h1,h2,h3,h4,h5,h6,h7,h8,h9⟩:=h;have e1:=hf 1 (by omega) (by simp[Rec.size])
  have e2:=hf 2 (by omega) (by simp[Rec.size])
  have e3:=hf 3 (by omega) (by simp[Rec.size])
  have e4:=hf 4 (by omega) (by simp[Rec.size])
  have e0:=h0 rfl (by simp[Rec.size])
  refine⟨o,p,h1.mono g,h2.mono g,h3.mono g,by rw[e0];exact h4,by rw[e1];exact h5,by rw[e2];exact h6,by rw[e3];exact h7,?_,?_⟩
  ·unfold W9;rw[e4];rcases h8 with⟨a,k⟩|⟨a,k,l⟩|⟨a,k⟩
   ·exact .inl ⟨a,λi=>by rw[hs s old new b rfl (pd i) a];exact k (pd i)⟩
   ·exact .inr (.inl ⟨a,g.inst _ k,g.lS _ l⟩)
   ·exact .inr (.inr ⟨a,g.inst _ k⟩)
  ·intro o;rw[e4, ←h9 o];exact⟨mj o,g.pC _ _⟩
theorem oR.keep (g:G.le G')(h:oR G f s w)(hs:f' s=f s)(he:kd (f s)=5→f' (aw (f s)+4)=f (aw (f s)+4))(ho: ∀e old new b,G'.ty e=some (.ek s old new b)→G'.lS e→G.lS e∧G.ty e=some (.ek s old new b)∧(f (e+4)≠0→f' (e+4)≠0)):oR G' f' s w:=by
 obtain⟨⟨o,p,h1,h2,h3⟩,h4,h5⟩:=h;refine⟨⟨o,p,h1.mono g,g.shut _ h2,h3.mono g⟩,?_,?_⟩
 ·rw[hs];rcases h4 with a|⟨a,new,b,k,l⟩
  ·exact .inl a
  ·exact .inr ⟨a,new,b,g.ty _ _ k,by rw[he a];exact l⟩
 ·intro e old new b k l;obtain⟨a1,a2,a3⟩:=ho e old new b k l;exact a3 (h5 e old new b a2 a1)
variable {G G':Ga} {m:Mm} {c s o:Int} {p:List Nat} {w:Int}
theorem bs.used (h:bs G m){c0 j0:Int}{r0:Rec}(t0:G.ty c0=some r0)(hj:0≤j0∧j0<r0.size):m.used (c0+j0):=by
 have:=h.room _ _ t0
 unfold Mm.used;omega
theorem bs.put {x a c0 j0:Int}{r0:Rec}(h:bs G m)(g:G.le G')(ht:G'.ty=G.ty)(t0:G.ty c0=some r0)(hj:0≤j0∧j0<r0.size)(ea:a=c0+j0)(LX: ∀s,G'.nz s→G.nz s∨s=a)(RQ: ∀c,G'.shut c→G.shut c∨c=c0)(mj: ∀e o,G'.pC e o→G.pC e o∨e=c0)(h0:zR G' (m.set a x).at c0 r0)(h1: ∀c r,G.ty c=some r→c≠c0→(G'.inst c→G.inst c)∨zR G' (m.set a x).at c r)(h2: ∀e s old new b,G.ty e=some (.ek s old new b)→e≠c0→G.inst e→m.at (e+4)=0→s≠a)(hf: ∀s w,G'.dx s w→oR G' (m.set a x).at s w)(ho: ∀e,G'.lS e→G'.inst e)(hi: ∀e,G'.inst e→∃s old new b,G'.ty e=some (.ek s old new b)):bs G' (m.set a x):=by
 have ua:m.used a:=by rw[ea];exact h.used t0 hj
 refine⟨λa r k=>by rw[vF];exact h.room a r (ht▸k),λa r b q k l=>h.Om a r b q (ht▸k) (ht▸l),?_,hf,ho,hi,?_,by rw[vF,Il];exact h.top⟩
 ·intro c r k;rw[ht] at k;by_cases hc:c=c0
  ·subst hc;rw[t0] at k;cases k;exact h0
  ·rcases h1 c r k hc with pd|hr
   ·refine zR.keep g (h.ij c r k) ?_ ?_ ?_ (λl=>(RQ c l).resolve_right hc) (λo l=>(mj c o l).resolve_right hc) pd ?_
    ·intro j j0' j1;refine aH ?_;rintro rfl;exact hc (h.cell k t0 ⟨j0',j1⟩ hj ea)
    ·rintro d p i rfl sO l;refine(LX _ l).resolve_right ?_;intro e;have hs:aQ G (bV c d i) c (p++[i]):=⟨d,p,i,k,sO,rfl,rfl⟩;refine hc (h.cell k t0 (i:=4+d+i) (j:=j0) ⟨by omega,by simp[Rec.size];omega⟩ hj ?_)
     rw[←ea, ←e];unfold bV;omega
    ·rintro t s rfl l;refine(LX _ l).resolve_right ?_;intro e;exact hc (h.cell k t0 (i:=3) (j:=j0) ⟨by omega,by simp[Rec.size]⟩ hj (by omega))
    ·rintro s old new b rfl i e4;exact aH (h2 c s old new b k hc i e4)
   ·exact hr
 ·rw[vF];unfold Mm.used at ua;have:=h.room _ _ t0
  refine⟨λs k=>?_,λc k=>?_,λe o k=>?_⟩
  ·rcases LX s k with l|rfl
   ·exact h.fresh.1 s l
   ·exact ua.2
  ·rcases RQ c k with l|rfl
   ·exact h.fresh.2.1 c l
   ·have:0<r0.size:=by cases r0<;>simp[Rec.size]
    omega
  ·rcases mj e o k with l|rfl
   ·exact h.fresh.2.2 e o l
   ·have:0<r0.size:=by cases r0<;>simp[Rec.size]
    omega
theorem bs.frz {x a c0 j0:Int}{r0:Rec}(h:bs G m)(g:G.le G')(ht:G'.ty=G.ty)(t0:G.ty c0=some r0)(hj:0≤j0∧j0<r0.size)(ea:a=c0+j0)(hs: ∀d q,r0= .inner d q→j0<4+d)(hd: ∀s old new b,r0= .ek s old new b→j0≠4)(acp: ∀e,G'.lS e→G.lS e)(kO: ∀s w,G'.dx s w→G.dx s w):
  ∀s w,G'.dx s w→oR G' (m.set a x).at s w:=by
 intro s w k;have F:=h.dx s w (kO s w k);have e4: ∀e s old new b,G.ty e=some (.ek s old new b)→e+4≠a:=by
  intro e s old new b te e';have:=h.cell te t0 (i:=4) (j:=j0) ⟨by omega,by simp[Rec.size]⟩ hj (by omega)
  subst this;rw[t0] at te;cases te;exact hd s old new b rfl (by omega)
 refine oR.keep g F (aH ?_) ?_ ?_
 ·rintro rfl;obtain⟨o,p,h1,_⟩:=F.fit;obtain⟨d,q,i,g1,g2,g3,g4⟩:=h1;have:=h.cell g1 t0 (i:=4+d+i) (j:=j0) ⟨by omega,by simp[Rec.size];omega⟩ hj (by unfold bV at g3;omega)
  subst this;rw[t0] at g1;cases g1;have:=hs d q rfl
  unfold bV at g3;omega
 ·intro h5;rcases F.now with e|⟨_,new,b,te,_⟩
  ·obtain⟨o,p,_,_,h3⟩:=F.fit;rw[e] at h5;exact absurd h5 h3.PJ
  ·exact aH (e4 _ _ _ _ _ te)
 ·intro e old new b te oe;rw[ht] at te;exact⟨acp e oe,te,λk=>by rw[aH (e4 _ _ _ _ _ te)];exact k⟩
theorem bs.AP (h:bs G m){e s old new:Int}{b:Nat}(t:G.ty e=some (.ek s old new b)): ∃o p,aQ G s o p∧da G p old∧da G p new:=by
 obtain⟨o,p,h1,h2,h3,_⟩:=h.ij _ _ t;exact⟨o,p,h1,h2,h3⟩
theorem bs.tB (h:bs G m){a c0 j0:Int}{r0:Rec}(t0:G.ty c0=some r0)(hj:0≤j0∧j0<r0.size)(ea:a=c0+j0)(hs: ∀d q,r0= .inner d q→j0<4+d)(k:aQ G s o p):s≠a:=by
 rintro rfl;obtain⟨d,q,i,g1,g2,g3,g4⟩:=k;have:=h.cell g1 t0 (i:=4+d+i) (j:=j0) ⟨by omega,by simp[Rec.size];omega⟩ hj (by unfold bV at g3;omega)
 subst this;rw[t0] at g1;cases g1;have:=hs d q rfl
 unfold bV at g3;omega
theorem bs.free {x a c0 j0:Int}{r0:Rec}(h:bs G m)(t0:G.ty c0=some r0)(hj:0≤j0∧j0<r0.size)(ea:a=c0+j0)(hr:(∃d q,r0= .inner d q∧(j0=3∨(5≤j0∧j0<4+d)))∨(∃t s,r0= .bT t s∧j0=4)):bs G (m.set a x):=by
 have ns: ∀d q,r0= .inner d q→j0<4+d:=by
  rintro d q rfl;rcases hr with⟨d',q',e,k⟩|⟨t,s,e,k⟩
  ·cases e;omega
  ·cases e
 refine h.put (Ga.le.refl G) rfl t0 hj ea (λ_ k=>.inl k) (λ_ k=>.inl k) (λ_ _ k=>.inl k) ?_ (λ_ _ _ _=>.inl id) ?_ (h.frz (Ga.le.refl G) rfl t0 hj ea ns ?_ (λ_ k=>k) λ_ _ k=>k) h.lS h.inst
 ·have R:=h.ij _ _ t0;rcases hr with⟨d,q,rfl,k⟩|⟨t,s,rfl,k⟩
  ·obtain⟨h1,h2,h3,h4,h5⟩:=R;refine⟨h1,by rw[aH (by omega)];exact h2,by rw[aH (by omega)];exact h3,by rw[aH (by omega)];exact h4,λi hi=>?_⟩
   rw[aH (by unfold bV;omega)];exact h5 i hi
  ·obtain⟨o,p,d,h1,h2,h3,h4,h5,h6,h7,h8⟩:=R;exact⟨o,p,d,h1,h2,h3,by rw[aH (by omega)];exact h4,by rw[aH (by omega)];exact h5,by rw[aH (by omega)];exact h6,by rw[aH (by omega)];exact h7,by rw[aH (by omega)];exact h8⟩
 ·intro e s old new b te _ _ _;obtain⟨o,p,k,_⟩:=h.AP te;exact h.tB t0 hj ea ns k
 ·rintro s old new b rfl;rcases hr with⟨d',q',e,k⟩|⟨t,s,e,k⟩<;>cases e
def Ga.Cz (G:Ga)(c:Int):Ga:={G with shut:=λx=>G.shut x∨x=c}
theorem Ga.vG (G:Ga)(c:Int):G.le (G.Cz c):=⟨λ_ _ h=>h,λ_ h=>h,λ_ h=>.inl h,λ_ _ h=>h,λ_ h=>h,λ_ h=>h,λ_ _ h=>h⟩
theorem bs.guard {d:Nat}{q:List Nat}(h:bs G m)(t0:G.ty c=some (.inner d q)):bs (G.Cz c) (m.set (c+2) 1):=by
 have g:=G.vG c;have hj:(0:Int)≤2∧(2:Int)<(Rec.inner d q).size:=⟨by omega,by simp[Rec.size];omega⟩
 have ns: ∀d' q',Rec.inner d q= .inner d' q'→(2:Int)<4+d':=λd' q' _=>by omega
 refine h.put g rfl t0 hj rfl (λ_ k=>.inl k) (λ_ k=>k) (λ_ _ k=>.inl k) ?_ (λ_ _ _ _=>.inl id) ?_ (h.frz g rfl t0 hj rfl ns ?_ (λ_ k=>k) λ_ _ k=>k) h.lS h.inst
 ·obtain⟨h1,h2,h3,h4,h5⟩:=h.ij _ _ t0;refine⟨h1,by rw[aH (by omega)];exact h2,.inr ⟨gD (h.used t0 hj),.inr rfl⟩,?_,λi hi=>?_⟩
  ·rw[aH (by omega)]
   rcases h4 with a|⟨n,a,b⟩
   ·exact .inl a
   ·exact .inr ⟨n,a,b.mono g⟩
  ·rw[aH (by unfold bV;omega)];exact(h5 i hi).mono g id
 ·intro e s old new b te _ _ _;obtain⟨o,p,k,_⟩:=h.AP te;exact h.tB t0 hj rfl ns k
 ·intro s old new b e;cases e
theorem bs.tell {d:Nat}{q:List Nat}{n:Nat}(h:bs G m)(t0:G.ty c=some (.inner d q))(hn:sk G c n):bs G (m.set (c+4) (n+1)):=by
 have g:=Ga.le.refl G;have h1':=(h.ij _ _ t0).1;have hj:(0:Int)≤4∧(4:Int)<(Rec.inner d q).size:=⟨by omega,by simp[Rec.size];omega⟩
 have ns: ∀d' q',Rec.inner d q= .inner d' q'→(4:Int)<4+d':=λd' q' e=>by cases e;omega
 refine h.put g rfl t0 hj rfl (λ_ k=>.inl k) (λ_ k=>.inl k) (λ_ _ k=>.inl k) ?_ (λ_ _ _ _=>.inl id) ?_ (h.frz g rfl t0 hj rfl ns ?_ (λ_ k=>k) λ_ _ k=>k) h.lS h.inst
 ·obtain⟨h1,h2,h3,h4,h5⟩:=h.ij _ _ t0;refine⟨h1,by rw[aH (by omega)];exact h2,by rw[aH (by omega)];exact h3,.inr ⟨n,gD (h.used t0 hj),hn⟩,λi hi=>?_⟩
  rw[aH (by unfold bV;omega)];exact h5 i hi
 ·intro e s old new b te _ _ _;obtain⟨o,p,k,_⟩:=h.AP te;exact h.tB t0 hj rfl ns k
 ·intro s old new b e;cases e
def Ga.K7 (G:Ga)(s:Int):Ga:={G with nz:=λx=>G.nz x∨x=s}
theorem Ga.Im (G:Ga)(s:Int):G.le (G.K7 s):=⟨λ_ _ h=>h,λ_ h=>.inl h,λ_ h=>h,λ_ _ h=>h,λ_ h=>h,λ_ h=>h,λ_ _ h=>h⟩
theorem bs.acq {t x:Int}(h:bs G m)(t0:G.ty c=some (.bT t s))(h0:x≠0)(hx: ∀p d,G.ty t=some (.inner d p)→zQ G t p x):bs (G.K7 (c+3)) (m.set (c+3) x):=by
 have g:=G.Im (c+3);have hj:(0:Int)≤3∧(3:Int)<(Rec.bT t s).size:=⟨by omega,by simp[Rec.size]⟩
 have ns: ∀d' q',Rec.bT t s= .inner d' q'→(3:Int)<4+d':=λd' q' e=>by cases e
 refine h.put g rfl t0 hj rfl (λ_ k=>k) (λ_ k=>.inl k) (λ_ _ k=>.inl k) ?_ (λ_ _ _ _=>.inl id) ?_ (h.frz g rfl t0 hj rfl ns ?_ (λ_ k=>k) λ_ _ k=>k) h.lS h.inst
 ·obtain⟨o,p,d,h1,h2,h3,h4,h5,h6,h7,h8⟩:=h.ij _ _ t0;refine⟨o,p,d,h1.mono g,h2,full.mono g h3,by rw[aH (by omega)];exact h4,by rw[aH (by omega)];exact h5,by rw[aH (by omega)];exact h6,by rw[aH (by omega)];exact h7,.inr ?_⟩
  rw[gD (h.used t0 hj)];exact⟨h0,.inr rfl,(hx p d h2).mono g⟩
 ·intro e s old new b te _ _ _;obtain⟨o,p,k,_⟩:=h.AP te;exact h.tB t0 hj rfl ns k
 ·intro s old new b e;cases e
def Ga.settle (G:Ga)(e o:Int):Ga:={G with pC:=λx y=>G.pC x y∨(x=e∧y=o)}
theorem Ga.AQ (G:Ga)(e o:Int):G.le (G.settle e o):=⟨λ_ _ h=>h,λ_ h=>h,λ_ h=>h,λ_ _ h=>h,λ_ h=>h,λ_ h=>h,λ_ _ h=>.inl h⟩
theorem bs.acr {e old new x:Int}{b:Nat}(h:bs G m)(t0:G.ty e=some (.ek s old new b))(h0:m.at (e+4)=0)(hi:G.inst e)(hx:(x=1∧G.lS e)∨x=2):bs (G.settle e x) (m.set (e+4) x):=by
 have g:=G.AQ e x;have hj:(0:Int)≤4∧(4:Int)<(Rec.ek s old new b).size:=⟨by omega,by simp[Rec.size]⟩
 have ns: ∀d' q',Rec.ek s old new b= .inner d' q'→(4:Int)<4+d':=λd' q' e=>by cases e
 have ee:=gD (x:=x) (h.used t0 hj);refine h.put g rfl t0 hj rfl (λ_ k=>.inl k) (λ_ k=>.inl k) (λe' o' k=>?_) ?_ (λ_ _ _ _=>.inl id) ?_ ?_ h.lS h.inst
 ·rcases k with k|⟨k,_⟩
  ·exact .inl k
  ·exact .inr k
 ·obtain⟨o,p,h1,h2,h3,h4,h5,h6,h7,h8,h9⟩:=h.ij _ _ t0;refine⟨o,p,h1.mono g,h2.mono g,h3.mono g,by rw[aH (by omega)];exact h4,by rw[aH (by omega)];exact h5,by rw[aH (by omega)];exact h6,by rw[aH (by omega)];exact h7,?_,?_⟩
  ·unfold W9;rw[ee];rcases hx with⟨rfl,k⟩|rfl
   ·exact .inr (.inl ⟨rfl,hi,k⟩)
   ·exact .inr (.inr ⟨rfl,hi⟩)
  ·intro o';rw[ee];constructor
   ·rintro(k|⟨_,rfl⟩)
    ·have:=(h9 o').1 k
     rw[h0] at this;exact absurd this.1.symm this.2
    ·exact⟨rfl,by omega⟩
   ·rintro⟨rfl,_⟩;exact .inr ⟨rfl,rfl⟩
 ·intro e' s old new b te _ _ _;obtain⟨o,p,k,_⟩:=h.AP te;exact h.tB t0 hj rfl ns k
 ·intro s' w k;have F:=h.dx s' w k;have e4: ∀e' s old new b,G.ty e'=some (.ek s old new b)→e'≠e→e'+4≠e+4:=λe' _ _ _ _ _ dy=>by omega
  obtain⟨o,p,h1,h2,h3⟩:=F.fit;have Ye:s'≠e+4:=h.tB t0 hj rfl ns h1;refine⟨⟨o,p,h1.mono g,h2,h3.mono g⟩,?_,?_⟩
  ·rw[aH Ye];rcases F.now with a|⟨a,fX,b',te,l⟩
   ·exact .inl a
   ·refine .inr ⟨a,fX,b',te,?_⟩;by_cases hee:aw (m.at s')=e
    ·rw[hee,ee];rcases hx with⟨rfl,kk⟩|rfl
     ·rw[hee,t0] at te;cases te;exact absurd h0 (F.old e _ _ _ t0 kk)
     ·decide
    ·rw[aH (by omega)];exact l
  ·intro e' hX fX b' te oe;by_cases hee:e'=e
   ·subst hee;rw[ee];omega
   ·rw[aH (by omega)];exact F.old e' hX fX b' te oe
theorem bs.vH {x:Int}(h:bs G m)(g:G.le G')(ht:G'.ty=G.ty)(hs:aQ G s o p)(LX: ∀s',G'.nz s'→G.nz s'∨s'=s)(RQ:G'.shut=G.shut)(mj:G'.pC=G.pC)(hw:AO G' s p x)(h1: ∀c r,G.ty c=some r→c≠o→(G'.inst c→G.inst c)∨zR G' (m.set s x).at c r)(h2: ∀e old new b,G.ty e=some (.ek s old new b)→G.inst e→m.at (e+4)≠0)(kO:G'.dx=G.dx)(hop:G'.lS=G.lS)(hz: ∀w,G.dx s w→oR G' (m.set s x).at s w)(ho: ∀e,G'.lS e→G'.inst e)(hi: ∀e,G'.inst e→∃s old new b,G'.ty e=some (.ek s old new b)):bs G' (m.set s x):=by
 obtain⟨d,q,i,t0,Mz,es,ep⟩:=id hs;have hj:(0:Int)≤4+d+i∧(4:Int)+d+i<(Rec.inner d q).size:=⟨by omega,by simp[Rec.size];omega⟩
 have ea:s=o+(4+d+i):=by rw[es];unfold bV;omega
 have us:m.used s:=by rw[ea];exact h.used t0 hj
 have e4: ∀e s' old new b,G.ty e=some (.ek s' old new b)→e+4≠s:=by
  intro e s' old new b te e';have:=h.cell te t0 (i:=4) (j:=4+d+i) ⟨by omega,by simp[Rec.size]⟩ hj (by omega)
  subst this;rw[t0] at te;cases te
 refine h.put g ht t0 hj ea LX (λc k=>.inl (RQ▸k)) (λe o k=>.inl (mj▸k)) ?_ h1 ?_ ?_ ho hi
 ·obtain⟨g1,g2,g3,g4,g5⟩:=h.ij _ _ t0;refine⟨g1,by rw[aH (by rw[ea];omega)];exact g2,by rw[aH (by rw[ea];omega),RQ];exact g3,?_,λj y9=>?_⟩
  ·rw[aH (by rw[ea];omega)]
   rcases g4 with a|⟨n,a,b⟩
   ·exact .inl a
   ·exact .inr ⟨n,a,b.mono g⟩
  ·by_cases hji:j=i
   ·subst hji;rw[←es, ←ep,gD us];exact hw
   ·have dy:bV o d j≠s:=by rw[es];unfold bV;omega
    rw[aH dy];exact(g5 j y9).mono g λk=>(LX _ k).resolve_right dy
 ·rintro e s' old new b te _ ie e0 rfl;exact h2 e old new b te ie e0
 ·intro s' w k;rw[kO] at k;by_cases hss:s'=s
  ·subst hss;exact hz w k
  ·have F:=h.dx s' w k;refine oR.keep g F (aH hss) ?_ ?_
   ·intro h5;rcases F.now with e|⟨_,new,b,te,_⟩
    ·obtain⟨o,p,_,_,h3⟩:=F.fit;rw[e] at h5;exact absurd h5 h3.PJ
    ·exact aH (e4 _ _ _ _ _ te)
   ·intro e old new b te oe;rw[ht] at te;exact⟨hop▸oe,te,λk=>by rw[aH (e4 _ _ _ _ _ te)];exact k⟩
theorem bs.RR (h:bs G m){a:Int}{r:Rec}(t:G.ty a=some r):1≤a∧a≤65536:=by
 have h1:=h.room a r t;have h2:=h.top;have:1≤r.size:=by cases r<;>simp[Rec.size]
 omega
theorem bs.idle (h:bs G m)(h5:kd (m.at s)≠5): ∀e old new b,G.ty e=some (.ek s old new b)→G.inst e→m.at (e+4)≠0:=by
 intro e old new b te ie e0;obtain⟨o,p,k1,k2,k3,k4,k5,k6,k7,k8,k9⟩:=h.ij _ _ te;rcases k8 with⟨_,k⟩|⟨k,_⟩|⟨k,_⟩
 ·rw[k ie,ik (by omega) (h.RR te)] at h5;exact h5 rfl
 ·omega
 ·omega
def Ga.install (G:Ga)(e:Int):Ga:={G with inst:=λx=>G.inst x∨x=e}
theorem Ga.gW (G:Ga)(e:Int):G.le (G.install e):=⟨λ_ _ h=>h,λ_ h=>h,λ_ h=>h,λ_ _ h=>h,λ_ h=>.inl h,λ_ h=>h,λ_ _ h=>h⟩
theorem bs.inst1 {e old new:Int}{b:Nat}(h:bs G m)(t0:G.ty e=some (.ek s old new b))(ho:m.at s=old)(hi: ¬G.inst e):bs (G.install e) (m.set s (fI 5 e)):=by
 have g:=G.gW e;obtain⟨o,p,k1,k2,k3,k4,k5,k6,k7,k8,k9⟩:=h.ij _ _ t0;have he:=h.RR t0;have k5':kd (m.at s)≠5:=by rw[ho];exact k2.PJ
 have z0:m.at (e+4)=0:=by
  rcases k8 with⟨k,_⟩|⟨_,k,_⟩|⟨_,k⟩
  ·exact k
  ·exact absurd k hi
  ·exact absurd k hi
 have nzs:G.nz s:=by
  rcases h.slot k1 with⟨a,_⟩|⟨a,_⟩
  ·rw[ho] at a;exact absurd a k2.Tw
  ·exact a
 have us:m.used s:=by
  obtain⟨d,q,j,t1,e1,e2,e3⟩:=k1.lt;rw[e1];exact h.used t1 ⟨by omega,e3⟩
 have PK: ∀e' s' old new b,G.ty e'=some (.ek s' old new b)→∀j:Int,0≤j→j<5→e'+j≠s:=by
  rintro e' s' old new b te j h0 h5 rfl;obtain⟨d,q,j',t1,e1,e2,e3⟩:=k1.lt;have:=h.cell te t1 (i:=j) (j:=j') ⟨h0,by simp[Rec.size];omega⟩ ⟨by omega,e3⟩ e1
  subst this;rw[t1] at te;cases te
 refine h.vH g rfl k1 (λ_ k=>.inl k) rfl rfl ⟨FX _ _,.inr ⟨nzs,.inr ⟨ik (by omega) he,?_,old,new,b,?_⟩⟩⟩ ?_ (h.idle k5') rfl rfl ?_ (λe' k=>.inl (h.lS e' k)) ?_
 ·rw[iO (by omega) he];exact .inr rfl
 ·rw[iO (by omega) he];exact t0
 ·intro c r tc _;by_cases hce:c=e
  ·subst hce;rw[t0] at tc;cases tc;refine .inr ⟨o,p,k1.mono g,k2.mono g,k3.mono g,?_,?_,?_,?_,?_,?_⟩
   ·have:=PK c s old new b t0 0 (by omega) (by omega)
    rw[aH (by simpa using this)];exact k4
   ·rw[aH (PK c s old new b t0 1 (by omega) (by omega))];exact k5
   ·rw[aH (PK c s old new b t0 2 (by omega) (by omega))];exact k6
   ·rw[aH (PK c s old new b t0 3 (by omega) (by omega))];exact k7
   ·refine .inl ⟨?_,λ_=>gD us⟩
    rw[aH (PK c s old new b t0 4 (by omega) (by omega))];exact z0
   ·intro o';rw[aH (PK c s old new b t0 4 (by omega) (by omega))];exact k9 o'
  ·exact .inl λk=>k.resolve_right hce
 ·intro w k;have F:=h.dx s w k;have e1:m.at s=w:=by
   rcases F.now with a|⟨a,_⟩
   ·exact a
   ·exact absurd a k5'
  have ew:old=w:=by rw[←ho,e1]
  obtain⟨o',p',f1,f2,f3⟩:=F.fit;refine⟨⟨o',p',f1.mono g,f2,f3.mono g⟩,.inr ⟨?_,new,b,?_,?_⟩,?_⟩
  ·rw[gD us];exact ik (by omega) he
  ·rw[gD us,iO (by omega) he, ←ew];exact t0
  ·rw[gD us,iO (by omega) he,aH (PK e s old new b t0 4 (by omega) (by omega)),z0];decide
  ·intro e' hX fX b' te oe;rw[aH (PK e' s hX fX b' te 4 (by omega) (by omega))]
   exact F.old e' hX fX b' te oe
 ·rintro e' (k|rfl)
  ·exact h.inst e' k
  ·exact⟨s,old,new,b,t0⟩
theorem bs.rel {e old new x:Int}{b:Nat}(h:bs G m)(t0:G.ty e=some (.ek s old new b))(ho:m.at s=fI 5 e)(hx:(G.pC e 1∧x=new)∨(G.pC e 2∧x=old)):bs G (m.set s x):=by
 have g:=Ga.le.refl G;obtain⟨o,p,k1,k2,k3,k4,k5,k6,k7,k8,k9⟩:=h.ij _ _ t0;have he:=h.RR t0;have nzs:G.nz s:=by
  rcases h.slot k1 with⟨a,_⟩|⟨a,_⟩
  ·have:=ik (k:=5) (by omega) he
   rw[←ho,a,sq] at this;omega
  ·exact a
 have fx:da G p x:=by rcases hx with⟨_,rfl⟩|⟨_,rfl⟩<;>assumption
 have Tw:m.at (e+4)≠0:=by
  rcases hx with⟨a,_⟩|⟨a,_⟩
  ·have:=(k9 1).1 a;omega
  ·have:=(k9 2).1 a;omega
 have us:m.used s:=by
  obtain⟨d,q,j,t1,e1,e2,e3⟩:=k1.lt;rw[e1];exact h.used t1 ⟨by omega,e3⟩
 have PK: ∀e' s' old new b,G.ty e'=some (.ek s' old new b)→∀j:Int,0≤j→j<5→e'+j≠s:=by
  rintro e' s' old new b te j h0 h5 rfl;obtain⟨d,q,j',t1,e1,e2,e3⟩:=k1.lt;have:=h.cell te t1 (i:=j) (j:=j') ⟨h0,by simp[Rec.size];omega⟩ ⟨by omega,e3⟩ e1
  subst this;rw[t1] at te;cases te
 refine h.vH g rfl k1 (λ_ k=>.inl k) rfl rfl ⟨fx.1.1,.inr ⟨nzs,.inl fx⟩⟩ (λ_ _ _ _=>.inl id) ?_ rfl rfl ?_ h.lS h.inst
 ·intro e' hX fX b' te ie e0;obtain⟨o',p',l1,l2,l3,l4,l5,l6,l7,l8,l9⟩:=h.ij _ _ te;rcases l8 with⟨_,k⟩|⟨k,_⟩|⟨k,_⟩
  ·have:=k ie
   rw[ho] at this;have e':=congrArg aw this;rw[iO (by omega) he,iO (by omega) (h.RR te)] at e'
   subst e';exact Tw e0
  ·omega
  ·omega
 ·intro w k;have F:=h.dx s w k;obtain⟨o',p',f1,f2,f3⟩:=F.fit;have hn:old=w∧x=old:=by
   rcases F.now with a|⟨a,fX,b',te,l⟩
   ·rw[ho] at a;have:=f3.PJ
    rw[←a,ik (by omega) he] at this;exact absurd rfl this
   ·rw[ho,iO (by omega) he] at te l
    rw[t0] at te;cases te;rcases hx with⟨a,_⟩|⟨_,rfl⟩
    ·exact absurd ((k9 1).1 a).1 l
    ·exact⟨rfl,rfl⟩
  refine⟨⟨o',p',f1,f2,f3⟩,.inl ?_,?_⟩
  ·rw[gD us,hn.2,hn.1]
  ·intro e' hX fX b' te oe;rw[aH (PK e' s hX fX b' te 4 (by omega) (by omega))]
   exact F.old e' hX fX b' te oe
theorem bs.part {x:Int}(h:bs G m)(hs:aQ G s o p)(h0:m.at s=0)(hx:da G p x):bs (G.K7 s) (m.set s x):=by
 have g:=G.Im s;have k5:kd (m.at s)≠5:=by rw[h0,sq];omega
 refine h.vH g rfl hs (λ_ k=>k) rfl rfl ⟨hx.1.1,.inr ⟨.inr rfl,.inl (hx.mono g)⟩⟩ (λ_ _ _ _=>.inl id) (h.idle k5) rfl rfl ?_ h.lS h.inst
 intro w k;have F:=h.dx s w k;obtain⟨o',p',f1,f2,f3⟩:=F.fit;rcases F.now with a|⟨a,_⟩
 ·rw[h0] at a;exact absurd a.symm f3.Tw
 ·exact absurd a k5
end Go.Proofs.YtgfgglponbmgmaaGreatA.Y
end
