/- Texts of the proof of peekPlays_holds, put together by a small program of ours (names shortened, spaces taken out). No condition beyond the given statement. -/
import Derived.Test.YtgfgglponbmgmaaGreatPKP20
set_option linter.unusedVariables false
set_option linter.unusedSimpArgs false
set_option linter.unnecessarySimpa false
noncomputable section
section
namespace Go.Proofs.YtgfgglponbmgmaaGreatA.Y
structure Mm where
 cs:List Int
 max:Nat
def Mm.used (m:Mm)(a:Int):Prop:=1≤a∧a≤m.cs.length
instance (m:Mm) (a:Int):Decidable (m.used a):=by unfold Mm.used;infer_instance
def Mm.at (m:Mm)(a:Int):Int:=if m.used a then m.cs.getD (a-1).toNat 0 else 0
def Mm.set (m:Mm)(a x:Int):Mm:=if m.used a then⟨m.cs.set (a-1).toNat x,m.max⟩ else m
def dT (m:Mm):Ask→Int×Mm
 | .rd a=>(m.at a,m)
 | .wr a x=>(0,m.set a x)
 | .cs a o x=>if m.used a∧m.at a=o then(1,m.set a x) else(0,m)
 | .ad a d=>if m.used a then(m.at a,m.set a (wr (m.at a+d))) else(0,m)
 | .mk w=>if w=[]∨w.length+m.cs.length>m.max then(0,m) else(m.cs.length+1,⟨m.cs++w,m.max⟩)
@[simp] theorem vS (m:Mm)(a x:Int):(m.set a x).cs.length=m.cs.length:=by
 unfold Mm.set;split<;>simp
@[simp] theorem IW (m:Mm)(a x:Int):(m.set a x).max=m.max:=by
 unfold Mm.set;split<;>simp
theorem y6 (m:Mm)(a x b:Int):(m.set a x).used b↔m.used b:=by simp[Mm.used]
theorem gJ {m:Mm}{a x:Int}(h:m.used a):(m.set a x).at a=x:=by
 have h':=(y6 m a x a).2 h;unfold Mm.at;rw[if_pos h'];unfold Mm.set;rw[if_pos h];unfold Mm.used at h;simp only[List.getD_eq_getElem?_getD];rw[List.getElem?_set_self (by omega)];rfl
theorem aH {m:Mm}{a x b:Int}(h:b≠a):(m.set a x).at b=m.at b:=by
 unfold Mm.at;by_cases hb:m.used b
 ·rw[if_pos ((y6 m a x b).2 hb),if_pos hb];unfold Mm.set;split
  ·next ha=>
   unfold Mm.used at ha hb;simp only[List.getD_eq_getElem?_getD];rw[List.getElem?_set_ne (by omega)]
  ·rfl
 ·rw[if_neg (λh=>hb ((y6 m a x b).1 h)),if_neg hb]
theorem Gu {cs w:List Int}{mx:Nat}{b:Int}(h:b≤cs.length):(Mm.mk (cs++w) mx).at b=(Mm.mk cs mx).at b:=by
 unfold Mm.at;by_cases h1:1≤b
 ·have u1:(Mm.mk (cs++w) mx).used b:=⟨h1,by simp;omega⟩
  have u2:(Mm.mk cs mx).used b:=⟨h1,h⟩;rw[if_pos u1,if_pos u2];simp only[List.getD_eq_getElem?_getD];rw[List.getElem?_append_left (by omega)]
 ·have u1: ¬(Mm.mk (cs++w) mx).used b:=λk=>h1 k.1
  have u2: ¬(Mm.mk cs mx).used b:=λk=>h1 k.1
  rw[if_neg u1,if_neg u2]
theorem O1 {cs w:List Int}{mx:Nat}{j:Nat}(h:j<w.length):(Mm.mk (cs++w) mx).at (cs.length+1+j)=w.getD j 0:=by
 have u1:(Mm.mk (cs++w) mx).used (cs.length+1+j):=⟨by omega,by simp;omega⟩
 unfold Mm.at;rw[if_pos u1];simp only[List.getD_eq_getElem?_getD];rw[List.getElem?_append_right (by omega)]
 congr 2;omega
inductive Rec where
 |leaf
 |empty
 |inner (d:Nat) (path:List Nat)
 |bT (c s:Int)
 |eA (s old new:Int) (by':Nat)
def Rec.size:Rec→Nat
 | .leaf=>2
 | .empty=>1
 | .inner d _=>2*d+4
 | .bT .. =>5
 | .eA .. =>5
structure Ga where
 ty:Int→Option Rec
 nz:Int→Prop
 shut:Int→Prop
 dy:Int→Int→Prop
 inst:Int→Prop
 lX:Int→Prop
 pD:Int→Int→Prop
structure Ga.le (G G':Ga):Prop where
 ty: ∀a r,G.ty a=some r→G'.ty a=some r
 nz: ∀s,G.nz s→G'.nz s
 shut: ∀c,G.shut c→G'.shut c
 dy: ∀s w,G.dy s w→G'.dy s w
 inst: ∀e,G.inst e→G'.inst e
 lX: ∀e,G.lX e→G'.lX e
 pD: ∀e o,G.pD e o→G'.pD e o
theorem Ga.le.refl (G:Ga):G.le G:=⟨λ_ _ h=>h,λ_ h=>h,λ_ h=>h,λ_ _ h=>h,λ_ h=>h,λ_ h=>h,λ_ _ h=>h⟩
theorem Ga.le.trans {A B C:Ga}(h:A.le B)(k:B.le C):A.le C:=
 ⟨λa r x=>k.ty a r (h.ty a r x),λa x=>k.nz a (h.nz a x),λa x=>k.shut a (h.shut a x),λa b x=>k.dy a b (h.dy a b x),λa x=>k.inst a (h.inst a x),λa x=>k.lX a (h.lX a x),λa b x=>k.pD a b (h.pD a b x)⟩
def bW (c:Int)(d i:Nat):Int:=c+4+d+i
def aQ (G:Ga)(s o:Int)(p:List Nat):Prop:=∃d q i,G.ty o=some (.inner d q)∧i<d∧s=bW o d i∧p=q++[i]
def full (G:Ga)(c:Int)(d:Nat):Prop:=∀i,i<d→G.nz (bW c d i)
def n5 (G:Ga)(w:Int):Prop:=w≤524296∧∃r,G.ty (aw w)=some r
def db (G:Ga)(p:List Nat)(w:Int):Prop:=
 n5 G w∧(kd w=1∨kd w=2∨(kd w=3∧∃d,G.ty (aw w)=some (.inner d p)∧full G (aw w) d)∨
 (kd w=4∧∃c s o d,G.ty (aw w)=some (.bT c s)∧aQ G s o p∧G.ty c=some (.inner d p)∧full G c d))
def Bg (G:Ga)(s:Int)(p:List Nat)(w:Int):Prop:=
 w≤524296∧((w=0∧¬G.nz s)∨(G.nz s∧(db G p w∨(kd w=5∧G.inst (aw w)∧∃old new b,G.ty (aw w)=some (.eA s old new b)))))
mutual
inductive sB (G:Ga):Int→Nat→Prop where
 |mk {c d p n} (h:G.ty c=some (.inner d p)) (hs:G.shut c) (k:gr G c d d n):sB G c n
inductive gr (G:Ga):Int→Nat→Nat→Nat→Prop where
 |zero {c d}:gr G c d 0 0
 |leaf {c d i n w} (h:gr G c d i n) (hf:G.dy (bW c d i) w) (hk:kd w=2):gr G c d (i+1) (n+1)
 |inner {c d i n w k} (h:gr G c d i n) (hf:G.dy (bW c d i) w) (hk:kd w=3) (hc:sB G (aw w) k):gr G c d (i+1) (n+k)
 |bT {c d i n w k c' s} (h:gr G c d i n) (hf:G.dy (bW c d i) w) (hk:kd w=4) (ht:G.ty (aw w)=some (.bT c' s)) (hc:sB G c' k):gr G c d (i+1) (n+k)
 |empty {c d i n w} (h:gr G c d i n) (hf:G.dy (bW c d i) w) (hk:kd w=1):gr G c d (i+1) n
end
def Ah (G:Ga)(c:Int)(p:List Nat)(x:Int):Prop:=
 x≤524296∧∃n,sB G c n∧(n≥2→kd x=3∧G.ty (aw x)=some (.inner (max (bo n) 1).toNat p))∧(n<2→db G p x)
def X5 (G:Ga)(f:Int→Int)(e s:Int):Prop:=
 (f (e+4)=0∧(G.inst e→f s=fO 5 e))∨(f (e+4)=1∧G.inst e∧G.lX e)∨(f (e+4)=2∧G.inst e)
def Ai (G:Ga)(f:Int→Int)(c:Int):Rec→Prop
 | .leaf=>True
 | .empty=>True
 | .inner d p=>1≤d∧f c=d∧((f (c+2)=0∧¬G.shut c)∨(f (c+2)=1∧G.shut c))∧(f (c+4)=0∨∃n:Nat,f (c+4)=n+1∧sB G c n)∧
   ∀i,i<d→Bg G (bW c d i) (p++[i]) (f (bW c d i))
 | .bT t s=>∃o p d,aQ G s o p∧G.ty t=some (.inner d p)∧full G t d∧kd (f c)=3∧aw (f c)=t∧f (c+1)=o+2∧f (c+2)=s∧((f (c+3)=0∧¬G.nz (c+3))∨(f (c+3)≠0∧G.nz (c+3)∧Ah G t p (f (c+3))))
 | .eA s old new _=>∃o p,aQ G s o p∧db G p old∧db G p new∧f c=o+2∧f (c+1)=s∧f (c+2)=old∧f (c+3)=new∧X5 G f c s∧∀o,G.pD c o↔(f (c+4)=o∧o≠0)
structure oU (G:Ga) (f:Int→Int) (s w:Int):Prop where
 fit: ∃o p,aQ G s o p∧G.shut o∧db G p w
 now:f s=w∨(kd (f s)=5∧∃new b,G.ty (aw (f s))=some (.eA s w new b)∧f (aw (f s)+4)≠1)
 old: ∀e old new b,G.ty e=some (.eA s old new b)→G.lX e→f (e+4)≠0
structure bs (G:Ga) (m:Mm):Prop where
 room: ∀a r,G.ty a=some r→1≤a∧a+r.size≤m.cs.length+1
 O2: ∀a r b q,G.ty a=some r→G.ty b=some q→a≠b→a+r.size≤b∨b+q.size≤a
 iz: ∀c r,G.ty c=some r→Ai G m.at c r
 dy: ∀s w,G.dy s w→oU G m.at s w
 lX: ∀e,G.lX e→G.inst e
 inst: ∀e,G.inst e→∃s old new b,G.ty e=some (.eA s old new b)
 fresh:(∀s,G.nz s→s≤m.cs.length)∧(∀c,G.shut c→c≤m.cs.length)∧(∀e o,G.pD e o→e≤m.cs.length)
 top:m.cs.length≤m.max∧m.max≤16384
variable {G G':Ga} {m:Mm} {f f':Int→Int} {c s o:Int} {p:List Nat} {w:Int}
theorem y7 {k a:Int}(hk:1≤k∧k≤5)(ha:1≤a∧a≤65536):eX (fO k a)=true:=by
 unfold fO eX wr;rw[if_neg (by omega)]
 simp;omega
theorem iA {k a:Int}(hk:1≤k∧k≤5)(ha:1≤a∧a≤65536):kd (fO k a)=k:=by
 unfold kd;rw[if_pos (y7 hk ha)];unfold fO;rw[if_neg (by omega)];omega
theorem iV {k a:Int}(hk:1≤k∧k≤5)(ha:1≤a∧a≤65536):aw (fO k a)=a:=by
 unfold aw;rw[if_pos (y7 hk ha)];unfold fO wr;rw[if_neg (by omega)];omega
theorem sC:kd 0=0:=by decide
theorem nQ (w:Int): -9223372036854775808≤aw w∧aw w≤65536:=by
 unfold aw;split
 ·next hr=>simp[eX] at hr;unfold wr at *;omega
 ·omega
theorem db.kd (h:db G p w):kd w=1∨kd w=2∨kd w=3∨kd w=4:=by
 rcases h.2 with h|h|⟨h,_⟩|⟨h,_⟩<;>simp[h]
theorem Gv (k a:Int):fO k a≤524296:=by unfold fO;split<;>omega
theorem db.Qv (h:db G p w):Y.kd w≠5:=by have:=h.kd;omega
theorem db.Ux (h:db G p w):w≠0:=by
 rintro rfl;have:=h.kd;rw[sC] at this;omega
theorem aQ.mono (g:G.le G')(h:aQ G s o p):aQ G' s o p:=by
 obtain⟨d,q,i,h1,h2⟩:=h;exact⟨d,q,i,g.ty _ _ h1,h2⟩
theorem full.mono {d:Nat}(g:G.le G')(h:full G c d):full G' c d:=λi hi=>g.nz _ (h i hi)
theorem n5.mono (g:G.le G')(h:n5 G w):n5 G' w:=by
 obtain⟨h1,r,h2⟩:=h;exact⟨h1,r,g.ty _ _ h2⟩
theorem n5.fO {k a:Int}{r:Rec}(hk:1≤k∧k≤5)(ha:1≤a∧a≤65536)(h:G.ty a=some r):n5 G (fO k a):=⟨Gv _ _,r,by rw[iV hk ha];exact h⟩
theorem db.mono (g:G.le G')(h:db G p w):db G' p w:=by
 refine⟨h.1.mono g,?_⟩;rcases h.2 with h|h|⟨h,d,h1,h2⟩|⟨h,c,s,o,d,h1,h2,h3,h4⟩
 ·exact .inl h
 ·exact .inr (.inl h)
 ·exact .inr (.inr (.inl ⟨h,d,g.ty _ _ h1,full.mono g h2⟩))
 ·exact .inr (.inr (.inr ⟨h,c,s,o,d,g.ty _ _ h1,h2.mono g,g.ty _ _ h3,full.mono g h4⟩))
mutual
theorem sB.mono (g:G.le G'): ∀{c n},sB G c n→sB G' c n
 |_,_,.mk h hs k=>.mk (g.ty _ _ h) (g.shut _ hs) (gr.mono g k)
theorem gr.mono (g:G.le G'): ∀{c d i n},gr G c d i n→gr G' c d i n
 |_,_,_,_,.zero=>.zero
 |_,_,_,_,.leaf h hf hk=>.leaf (gr.mono g h) (g.dy _ _ hf) hk
 |_,_,_,_,.inner h hf hk hc=>.inner (gr.mono g h) (g.dy _ _ hf) hk (sB.mono g hc)
 |_,_,_,_,.bT h hf hk ht hc=>.bT (gr.mono g h) (g.dy _ _ hf) hk (g.ty _ _ ht) (sB.mono g hc)
 |_,_,_,_,.empty h hf hk=>.empty (gr.mono g h) (g.dy _ _ hf) hk
end
theorem Ah.mono (g:G.le G')(h:Ah G c p w):Ah G' c p w:=by
 obtain⟨h0,n,h1,h2,h3⟩:=h;exact⟨h0,n,h1.mono g,λk=>⟨(h2 k).1,g.ty _ _ (h2 k).2⟩,λk=>(h3 k).mono g⟩
theorem Bg.mono (g:G.le G')(hn:G'.nz s→G.nz s)(h:Bg G s p w):Bg G' s p w:=by
 refine⟨h.1,?_⟩;rcases h.2 with⟨h1,h2⟩|⟨h1,h2|⟨h2,h3,old,new,b,h4⟩⟩
 ·exact .inl ⟨h1,λk=>h2 (hn k)⟩
 ·exact .inr ⟨g.nz _ h1,.inl (h2.mono g)⟩
 ·exact .inr ⟨g.nz _ h1,.inr ⟨h2,g.inst _ h3,old,new,b,g.ty _ _ h4⟩⟩
theorem bs.cell (h:bs G m){a b:Int}{r q:Rec}(ha:G.ty a=some r)(hb:G.ty b=some q){i j:Int}(hi:0≤i∧i<r.size)(hj:0≤j∧j<q.size)(e:a+i=b+j):a=b:=by
 refine Decidable.byContradiction λdz=>?_
 have:=h.O2 a r b q ha hb dz
 omega
theorem aQ.lt (h:aQ G s o p): ∃d q j,G.ty o=some (.inner d q)∧s=o+j∧5≤j∧j<(Rec.inner d q).size:=by
 obtain⟨d,q,i,h1,h2,h3,h4⟩:=h;refine⟨d,q,4+d+i,h1,by rw[h3];unfold bW;omega,?_,?_⟩
 ·omega
 ·simp[Rec.size];omega
theorem aQ.uniq (h:bs G m){o':Int}{p':List Nat}(a:aQ G s o p)(b:aQ G s o' p'):o=o'∧p=p':=by
 obtain⟨d,q,j,h1,h2,h3,h4⟩:=a.lt;obtain⟨d',q',j',k1,k2,k3,k4⟩:=b.lt;have e:=h.cell h1 k1 (i:=j) (j:=j') ⟨by omega,h4⟩ ⟨by omega,k4⟩ (by omega)
 subst e;refine⟨rfl,?_⟩;obtain⟨d,q,i,g1,g2,g3,g4⟩:=a;obtain⟨d',q',i',l1,l2,l3,l4⟩:=b;rw[g1] at l1;cases l1;rw[g4,l4];unfold bW at g3 l3;have:i=i':=by omega
 rw[this]
theorem bs.Uy (h:bs G m)(a:aQ G s o p):Bg G s p (m.at s):=by
 obtain⟨d,q,i,h1,h2,h3,h4⟩:=a;have:=(h.iz _ _ h1).2.2.2.2 i h2
 rw[h3,h4];exact this
theorem bs.slot (h:bs G m)(a:aQ G s o p):(m.at s=0∧¬G.nz s)∨(G.nz s∧(db G p (m.at s)∨(kd (m.at s)=5∧G.inst (aw (m.at s))∧∃old new b,G.ty (aw (m.at s))=some (.eA s old new b)))):=(h.Uy a).2
theorem Ai.keep {r:Rec}(g:G.le G')(h:Ai G f c r)(hf: ∀j:Int,0≤j→j<r.size→f' (c+j)=f (c+j))(ML: ∀d p i,r= .inner d p→i<d→G'.nz (bW c d i)→G.nz (bW c d i))(hnr: ∀t s,r= .bT t s→G'.nz (c+3)→G.nz (c+3))(SA:G'.shut c→G.shut c)(kq: ∀o,G'.pD c o→G.pD c o)(pY:G'.inst c→G.inst c)(hs: ∀s old new b,r= .eA s old new b→G.inst c→f (c+4)=0→f' s=f s):Ai G' f' c r:=by
 have h0: ∀{j:Int},j=0→0<r.size→f' c=f c:=λ_ k=>by have:=hf 0 (by omega) (by omega);simpa using this
 cases r with
 |leaf=>trivial
 |empty=>trivial
 |inner d p=>
  obtain⟨h1,h2,h3,h4,h5⟩:=h;have e2:=hf 2 (by omega) (by simp[Rec.size];omega)
  have e4:=hf 4 (by omega) (by simp[Rec.size];omega)
  refine⟨h1,by rw[h0 rfl (by simp[Rec.size])];exact h2,?_,?_,?_⟩
  ·rw[e2];rcases h3 with⟨a,b⟩|⟨a,b⟩
   ·exact .inl ⟨a,λk=>b (SA k)⟩
   ·exact .inr ⟨a,g.shut _ b⟩
  ·rw[e4];rcases h4 with a|⟨n,a,b⟩
   ·exact .inl a
   ·exact .inr ⟨n,a,b.mono g⟩
  ·intro i hi;have e:f' (bW c d i)=f (bW c d i):=by
    have:=hf (4+d+i) (by omega) (by simp[Rec.size];omega)
    have e:bW c d i=c+(4+d+i):=by unfold bW;omega
    rw[e];exact this
   rw[e];exact(h5 i hi).mono g (ML d p i rfl hi)
 |bT t s=>
  obtain⟨o,p,d,h1,h2,h3,h4,h5,h6,h7,h8⟩:=h;have e1:=hf 1 (by omega) (by simp[Rec.size])
  have e2:=hf 2 (by omega) (by simp[Rec.size])
  have e3:=hf 3 (by omega) (by simp[Rec.size])
  have e0:=h0 rfl (by simp[Rec.size])
  refine⟨o,p,d,h1.mono g,g.ty _ _ h2,full.mono g h3,by rw[e0];exact h4,by rw[e0];exact h5,by rw[e1];exact h6,by rw[e2];exact h7,?_⟩
  rw[e3];rcases h8 with⟨a,b⟩|⟨a,b,d⟩
  ·exact .inl ⟨a,λk=>b (hnr t s rfl k)⟩
  ·exact .inr ⟨a,g.nz _ b,d.mono g⟩
 |eA s old new b=>
  obtain⟨o,p,h1,h2,h3,h4,h5,h6,h7,h8,h9⟩:=h;have e1:=hf 1 (by omega) (by simp[Rec.size])
  have e2:=hf 2 (by omega) (by simp[Rec.size])
  have e3:=hf 3 (by omega) (by simp[Rec.size])
  have e4:=hf 4 (by omega) (by simp[Rec.size])
  have e0:=h0 rfl (by simp[Rec.size])
  refine⟨o,p,h1.mono g,h2.mono g,h3.mono g,by rw[e0];exact h4,by rw[e1];exact h5,by rw[e2];exact h6,by rw[e3];exact h7,?_,?_⟩
  ·unfold X5;rw[e4];rcases h8 with⟨a,k⟩|⟨a,k,l⟩|⟨a,k⟩
   ·exact .inl ⟨a,λi=>by rw[hs s old new b rfl (pY i) a];exact k (pY i)⟩
   ·exact .inr (.inl ⟨a,g.inst _ k,g.lX _ l⟩)
   ·exact .inr (.inr ⟨a,g.inst _ k⟩)
  ·intro o;rw[e4, ←h9 o];exact⟨kq o,g.pD _ _⟩
theorem oU.keep (g:G.le G')(h:oU G f s w)(hs:f' s=f s)(he:kd (f s)=5→f' (aw (f s)+4)=f (aw (f s)+4))(ho: ∀e old new b,G'.ty e=some (.eA s old new b)→G'.lX e→G.lX e∧G.ty e=some (.eA s old new b)∧(f (e+4)≠0→f' (e+4)≠0)):oU G' f' s w:=by
 obtain⟨⟨o,p,h1,h2,h3⟩,h4,h5⟩:=h;refine⟨⟨o,p,h1.mono g,g.shut _ h2,h3.mono g⟩,?_,?_⟩
 ·rw[hs];rcases h4 with a|⟨a,new,b,k,l⟩
  ·exact .inl a
  ·exact .inr ⟨a,new,b,g.ty _ _ k,by rw[he a];exact l⟩
 ·intro e old new b k l;obtain⟨a1,a2,a3⟩:=ho e old new b k l;exact a3 (h5 e old new b a2 a1)
variable {G G':Ga} {m:Mm} {c s o:Int} {p:List Nat} {w:Int}
theorem bs.used (h:bs G m){c0 j0:Int}{r0:Rec}(t0:G.ty c0=some r0)(hj:0≤j0∧j0<r0.size):m.used (c0+j0):=by
 have:=h.room _ _ t0
 unfold Mm.used;omega
theorem bs.put {x a c0 j0:Int}{r0:Rec}(h:bs G m)(g:G.le G')(ht:G'.ty=G.ty)(t0:G.ty c0=some r0)(hj:0≤j0∧j0<r0.size)(ea:a=c0+j0)(ML: ∀s,G'.nz s→G.nz s∨s=a)(SA: ∀c,G'.shut c→G.shut c∨c=c0)(kq: ∀e o,G'.pD e o→G.pD e o∨e=c0)(h0:Ai G' (m.set a x).at c0 r0)(h1: ∀c r,G.ty c=some r→c≠c0→(G'.inst c→G.inst c)∨Ai G' (m.set a x).at c r)(h2: ∀e s old new b,G.ty e=some (.eA s old new b)→e≠c0→G.inst e→m.at (e+4)=0→s≠a)(hf: ∀s w,G'.dy s w→oU G' (m.set a x).at s w)(ho: ∀e,G'.lX e→G'.inst e)(hi: ∀e,G'.inst e→∃s old new b,G'.ty e=some (.eA s old new b)):bs G' (m.set a x):=by
 have ua:m.used a:=by rw[ea];exact h.used t0 hj
 refine⟨λa r k=>by rw[vS];exact h.room a r (ht▸k),λa r b q k l=>h.O2 a r b q (ht▸k) (ht▸l),?_,hf,ho,hi,?_,by rw[vS,IW];exact h.top⟩
 ·intro c r k;rw[ht] at k;by_cases hc:c=c0
  ·subst hc;rw[t0] at k;cases k;exact h0
  ·rcases h1 c r k hc with pY|hr
   ·refine Ai.keep g (h.iz c r k) ?_ ?_ ?_ (λl=>(SA c l).resolve_right hc) (λo l=>(kq c o l).resolve_right hc) pY ?_
    ·intro j j0' j1;refine aH ?_;rintro rfl;exact hc (h.cell k t0 ⟨j0',j1⟩ hj ea)
    ·rintro d p i rfl qv l;refine(ML _ l).resolve_right ?_;intro e;have hs:aQ G (bW c d i) c (p++[i]):=⟨d,p,i,k,qv,rfl,rfl⟩;refine hc (h.cell k t0 (i:=4+d+i) (j:=j0) ⟨by omega,by simp[Rec.size];omega⟩ hj ?_)
     rw[←ea, ←e];unfold bW;omega
    ·rintro t s rfl l;refine(ML _ l).resolve_right ?_;intro e;exact hc (h.cell k t0 (i:=3) (j:=j0) ⟨by omega,by simp[Rec.size]⟩ hj (by omega))
    ·rintro s old new b rfl i e4;exact aH (h2 c s old new b k hc i e4)
   ·exact hr
 ·rw[vS];unfold Mm.used at ua;have:=h.room _ _ t0
  refine⟨λs k=>?_,λc k=>?_,λe o k=>?_⟩
  ·rcases ML s k with l|rfl
   ·exact h.fresh.1 s l
   ·exact ua.2
  ·rcases SA c k with l|rfl
   ·exact h.fresh.2.1 c l
   ·have:0<r0.size:=by cases r0<;>simp[Rec.size]
    omega
  ·rcases kq e o k with l|rfl
   ·exact h.fresh.2.2 e o l
   ·have:0<r0.size:=by cases r0<;>simp[Rec.size]
    omega
theorem bs.frz {x a c0 j0:Int}{r0:Rec}(h:bs G m)(g:G.le G')(ht:G'.ty=G.ty)(t0:G.ty c0=some r0)(hj:0≤j0∧j0<r0.size)(ea:a=c0+j0)(hs: ∀d q,r0= .inner d q→j0<4+d)(hd: ∀s old new b,r0= .eA s old new b→j0≠4)(adf: ∀e,G'.lX e→G.lX e)(kU: ∀s w,G'.dy s w→G.dy s w):
  ∀s w,G'.dy s w→oU G' (m.set a x).at s w:=by
 intro s w k;have F:=h.dy s w (kU s w k);have e4: ∀e s old new b,G.ty e=some (.eA s old new b)→e+4≠a:=by
  intro e s old new b te e';have:=h.cell te t0 (i:=4) (j:=j0) ⟨by omega,by simp[Rec.size]⟩ hj (by omega)
  subst this;rw[t0] at te;cases te;exact hd s old new b rfl (by omega)
 refine oU.keep g F (aH ?_) ?_ ?_
 ·rintro rfl;obtain⟨o,p,h1,_⟩:=F.fit;obtain⟨d,q,i,g1,g2,g3,g4⟩:=h1;have:=h.cell g1 t0 (i:=4+d+i) (j:=j0) ⟨by omega,by simp[Rec.size];omega⟩ hj (by unfold bW at g3;omega)
  subst this;rw[t0] at g1;cases g1;have:=hs d q rfl
  unfold bW at g3;omega
 ·intro h5;rcases F.now with e|⟨_,new,b,te,_⟩
  ·obtain⟨o,p,_,_,h3⟩:=F.fit;rw[e] at h5;exact absurd h5 h3.Qv
  ·exact aH (e4 _ _ _ _ _ te)
 ·intro e old new b te oe;rw[ht] at te;exact⟨adf e oe,te,λk=>by rw[aH (e4 _ _ _ _ _ te)];exact k⟩
theorem bs.Bh (h:bs G m){e s old new:Int}{b:Nat}(t:G.ty e=some (.eA s old new b)): ∃o p,aQ G s o p∧db G p old∧db G p new:=by
 obtain⟨o,p,h1,h2,h3,_⟩:=h.iz _ _ t;exact⟨o,p,h1,h2,h3⟩
theorem bs.tQ (h:bs G m){a c0 j0:Int}{r0:Rec}(t0:G.ty c0=some r0)(hj:0≤j0∧j0<r0.size)(ea:a=c0+j0)(hs: ∀d q,r0= .inner d q→j0<4+d)(k:aQ G s o p):s≠a:=by
 rintro rfl;obtain⟨d,q,i,g1,g2,g3,g4⟩:=k;have:=h.cell g1 t0 (i:=4+d+i) (j:=j0) ⟨by omega,by simp[Rec.size];omega⟩ hj (by unfold bW at g3;omega)
 subst this;rw[t0] at g1;cases g1;have:=hs d q rfl
 unfold bW at g3;omega
theorem bs.free {x a c0 j0:Int}{r0:Rec}(h:bs G m)(t0:G.ty c0=some r0)(hj:0≤j0∧j0<r0.size)(ea:a=c0+j0)(hr:(∃d q,r0= .inner d q∧(j0=3∨(5≤j0∧j0<4+d)))∨(∃t s,r0= .bT t s∧j0=4)):bs G (m.set a x):=by
 have ns: ∀d q,r0= .inner d q→j0<4+d:=by
  rintro d q rfl;rcases hr with⟨d',q',e,k⟩|⟨t,s,e,k⟩
  ·cases e;omega
  ·cases e
 refine h.put (Ga.le.refl G) rfl t0 hj ea (λ_ k=>.inl k) (λ_ k=>.inl k) (λ_ _ k=>.inl k) ?_ (λ_ _ _ _=>.inl id) ?_ (h.frz (Ga.le.refl G) rfl t0 hj ea ns ?_ (λ_ k=>k) λ_ _ k=>k) h.lX h.inst
 ·have R:=h.iz _ _ t0;rcases hr with⟨d,q,rfl,k⟩|⟨t,s,rfl,k⟩
  ·obtain⟨h1,h2,h3,h4,h5⟩:=R;refine⟨h1,by rw[aH (by omega)];exact h2,by rw[aH (by omega)];exact h3,by rw[aH (by omega)];exact h4,λi hi=>?_⟩
   rw[aH (by unfold bW;omega)];exact h5 i hi
  ·obtain⟨o,p,d,h1,h2,h3,h4,h5,h6,h7,h8⟩:=R;exact⟨o,p,d,h1,h2,h3,by rw[aH (by omega)];exact h4,by rw[aH (by omega)];exact h5,by rw[aH (by omega)];exact h6,by rw[aH (by omega)];exact h7,by rw[aH (by omega)];exact h8⟩
 ·intro e s old new b te _ _ _;obtain⟨o,p,k,_⟩:=h.Bh te;exact h.tQ t0 hj ea ns k
 ·rintro s old new b rfl;rcases hr with⟨d',q',e,k⟩|⟨t,s,e,k⟩<;>cases e
def Ga.CV (G:Ga)(c:Int):Ga:={G with shut:=λx=>G.shut x∨x=c}
theorem Ga.vT (G:Ga)(c:Int):G.le (G.CV c):=⟨λ_ _ h=>h,λ_ h=>h,λ_ h=>.inl h,λ_ _ h=>h,λ_ h=>h,λ_ h=>h,λ_ _ h=>h⟩
theorem bs.guard {d:Nat}{q:List Nat}(h:bs G m)(t0:G.ty c=some (.inner d q)):bs (G.CV c) (m.set (c+2) 1):=by
 have g:=G.vT c;have hj:(0:Int)≤2∧(2:Int)<(Rec.inner d q).size:=⟨by omega,by simp[Rec.size];omega⟩
 have ns: ∀d' q',Rec.inner d q= .inner d' q'→(2:Int)<4+d':=λd' q' _=>by omega
 refine h.put g rfl t0 hj rfl (λ_ k=>.inl k) (λ_ k=>k) (λ_ _ k=>.inl k) ?_ (λ_ _ _ _=>.inl id) ?_ (h.frz g rfl t0 hj rfl ns ?_ (λ_ k=>k) λ_ _ k=>k) h.lX h.inst
 ·obtain⟨h1,h2,h3,h4,h5⟩:=h.iz _ _ t0;refine⟨h1,by rw[aH (by omega)];exact h2,.inr ⟨gJ (h.used t0 hj),.inr rfl⟩,?_,λi hi=>?_⟩
  ·rw[aH (by omega)]
   rcases h4 with a|⟨n,a,b⟩
   ·exact .inl a
   ·exact .inr ⟨n,a,b.mono g⟩
  ·rw[aH (by unfold bW;omega)];exact(h5 i hi).mono g id
 ·intro e s old new b te _ _ _;obtain⟨o,p,k,_⟩:=h.Bh te;exact h.tQ t0 hj rfl ns k
 ·intro s old new b e;cases e
theorem bs.tell {d:Nat}{q:List Nat}{n:Nat}(h:bs G m)(t0:G.ty c=some (.inner d q))(hn:sB G c n):bs G (m.set (c+4) (n+1)):=by
 have g:=Ga.le.refl G;have h1':=(h.iz _ _ t0).1;have hj:(0:Int)≤4∧(4:Int)<(Rec.inner d q).size:=⟨by omega,by simp[Rec.size];omega⟩
 have ns: ∀d' q',Rec.inner d q= .inner d' q'→(4:Int)<4+d':=λd' q' e=>by cases e;omega
 refine h.put g rfl t0 hj rfl (λ_ k=>.inl k) (λ_ k=>.inl k) (λ_ _ k=>.inl k) ?_ (λ_ _ _ _=>.inl id) ?_ (h.frz g rfl t0 hj rfl ns ?_ (λ_ k=>k) λ_ _ k=>k) h.lX h.inst
 ·obtain⟨h1,h2,h3,h4,h5⟩:=h.iz _ _ t0;refine⟨h1,by rw[aH (by omega)];exact h2,by rw[aH (by omega)];exact h3,.inr ⟨n,gJ (h.used t0 hj),hn⟩,λi hi=>?_⟩
  rw[aH (by unfold bW;omega)];exact h5 i hi
 ·intro e s old new b te _ _ _;obtain⟨o,p,k,_⟩:=h.Bh te;exact h.tQ t0 hj rfl ns k
 ·intro s old new b e;cases e
def Ga.LO (G:Ga)(s:Int):Ga:={G with nz:=λx=>G.nz x∨x=s}
theorem Ga.IX (G:Ga)(s:Int):G.le (G.LO s):=⟨λ_ _ h=>h,λ_ h=>.inl h,λ_ h=>h,λ_ _ h=>h,λ_ h=>h,λ_ h=>h,λ_ _ h=>h⟩
theorem bs.adg {t x:Int}(h:bs G m)(t0:G.ty c=some (.bT t s))(h0:x≠0)(hx: ∀p d,G.ty t=some (.inner d p)→Ah G t p x):bs (G.LO (c+3)) (m.set (c+3) x):=by
 have g:=G.IX (c+3);have hj:(0:Int)≤3∧(3:Int)<(Rec.bT t s).size:=⟨by omega,by simp[Rec.size]⟩
 have ns: ∀d' q',Rec.bT t s= .inner d' q'→(3:Int)<4+d':=λd' q' e=>by cases e
 refine h.put g rfl t0 hj rfl (λ_ k=>k) (λ_ k=>.inl k) (λ_ _ k=>.inl k) ?_ (λ_ _ _ _=>.inl id) ?_ (h.frz g rfl t0 hj rfl ns ?_ (λ_ k=>k) λ_ _ k=>k) h.lX h.inst
 ·obtain⟨o,p,d,h1,h2,h3,h4,h5,h6,h7,h8⟩:=h.iz _ _ t0;refine⟨o,p,d,h1.mono g,h2,full.mono g h3,by rw[aH (by omega)];exact h4,by rw[aH (by omega)];exact h5,by rw[aH (by omega)];exact h6,by rw[aH (by omega)];exact h7,.inr ?_⟩
  rw[gJ (h.used t0 hj)];exact⟨h0,.inr rfl,(hx p d h2).mono g⟩
 ·intro e s old new b te _ _ _;obtain⟨o,p,k,_⟩:=h.Bh te;exact h.tQ t0 hj rfl ns k
 ·intro s old new b e;cases e
def Ga.settle (G:Ga)(e o:Int):Ga:={G with pD:=λx y=>G.pD x y∨(x=e∧y=o)}
theorem Ga.Bi (G:Ga)(e o:Int):G.le (G.settle e o):=⟨λ_ _ h=>h,λ_ h=>h,λ_ h=>h,λ_ _ h=>h,λ_ h=>h,λ_ h=>h,λ_ _ h=>.inl h⟩
theorem bs.adh {e old new x:Int}{b:Nat}(h:bs G m)(t0:G.ty e=some (.eA s old new b))(h0:m.at (e+4)=0)(hi:G.inst e)(hx:(x=1∧G.lX e)∨x=2):bs (G.settle e x) (m.set (e+4) x):=by
 have g:=G.Bi e x;have hj:(0:Int)≤4∧(4:Int)<(Rec.eA s old new b).size:=⟨by omega,by simp[Rec.size]⟩
 have ns: ∀d' q',Rec.eA s old new b= .inner d' q'→(4:Int)<4+d':=λd' q' e=>by cases e
 have ee:=gJ (x:=x) (h.used t0 hj);refine h.put g rfl t0 hj rfl (λ_ k=>.inl k) (λ_ k=>.inl k) (λe' o' k=>?_) ?_ (λ_ _ _ _=>.inl id) ?_ ?_ h.lX h.inst
 ·rcases k with k|⟨k,_⟩
  ·exact .inl k
  ·exact .inr k
 ·obtain⟨o,p,h1,h2,h3,h4,h5,h6,h7,h8,h9⟩:=h.iz _ _ t0;refine⟨o,p,h1.mono g,h2.mono g,h3.mono g,by rw[aH (by omega)];exact h4,by rw[aH (by omega)];exact h5,by rw[aH (by omega)];exact h6,by rw[aH (by omega)];exact h7,?_,?_⟩
  ·unfold X5;rw[ee];rcases hx with⟨rfl,k⟩|rfl
   ·exact .inr (.inl ⟨rfl,hi,k⟩)
   ·exact .inr (.inr ⟨rfl,hi⟩)
  ·intro o';rw[ee];constructor
   ·rintro(k|⟨_,rfl⟩)
    ·have:=(h9 o').1 k
     rw[h0] at this;exact absurd this.1.symm this.2
    ·exact⟨rfl,by omega⟩
   ·rintro⟨rfl,_⟩;exact .inr ⟨rfl,rfl⟩
 ·intro e' s old new b te _ _ _;obtain⟨o,p,k,_⟩:=h.Bh te;exact h.tQ t0 hj rfl ns k
 ·intro s' w k;have F:=h.dy s' w k;have e4: ∀e' s old new b,G.ty e'=some (.eA s old new b)→e'≠e→e'+4≠e+4:=λe' _ _ _ _ _ dz=>by omega
  obtain⟨o,p,h1,h2,h3⟩:=F.fit;have Y5:s'≠e+4:=h.tQ t0 hj rfl ns h1;refine⟨⟨o,p,h1.mono g,h2,h3.mono g⟩,?_,?_⟩
  ·rw[aH Y5];rcases F.now with a|⟨a,gh,b',te,l⟩
   ·exact .inl a
   ·refine .inr ⟨a,gh,b',te,?_⟩;by_cases hee:aw (m.at s')=e
    ·rw[hee,ee];rcases hx with⟨rfl,kk⟩|rfl
     ·rw[hee,t0] at te;cases te;exact absurd h0 (F.old e _ _ _ t0 kk)
     ·decide
    ·rw[aH (by omega)];exact l
  ·intro e' im gh b' te oe;by_cases hee:e'=e
   ·subst hee;rw[ee];omega
   ·rw[aH (by omega)];exact F.old e' im gh b' te oe
theorem bs.vU {x:Int}(h:bs G m)(g:G.le G')(ht:G'.ty=G.ty)(hs:aQ G s o p)(ML: ∀s',G'.nz s'→G.nz s'∨s'=s)(SA:G'.shut=G.shut)(kq:G'.pD=G.pD)(hw:Bg G' s p x)(h1: ∀c r,G.ty c=some r→c≠o→(G'.inst c→G.inst c)∨Ai G' (m.set s x).at c r)(h2: ∀e old new b,G.ty e=some (.eA s old new b)→G.inst e→m.at (e+4)≠0)(kU:G'.dy=G.dy)(vi:G'.lX=G.lX)(hz: ∀w,G.dy s w→oU G' (m.set s x).at s w)(ho: ∀e,G'.lX e→G'.inst e)(hi: ∀e,G'.inst e→∃s old new b,G'.ty e=some (.eA s old new b)):bs G' (m.set s x):=by
 obtain⟨d,q,i,t0,Ng,es,ep⟩:=id hs;have hj:(0:Int)≤4+d+i∧(4:Int)+d+i<(Rec.inner d q).size:=⟨by omega,by simp[Rec.size];omega⟩
 have ea:s=o+(4+d+i):=by rw[es];unfold bW;omega
 have us:m.used s:=by rw[ea];exact h.used t0 hj
 have e4: ∀e s' old new b,G.ty e=some (.eA s' old new b)→e+4≠s:=by
  intro e s' old new b te e';have:=h.cell te t0 (i:=4) (j:=4+d+i) ⟨by omega,by simp[Rec.size]⟩ hj (by omega)
  subst this;rw[t0] at te;cases te
 refine h.put g ht t0 hj ea ML (λc k=>.inl (SA▸k)) (λe o k=>.inl (kq▸k)) ?_ h1 ?_ ?_ ho hi
 ·obtain⟨g1,g2,g3,g4,g5⟩:=h.iz _ _ t0;refine⟨g1,by rw[aH (by rw[ea];omega)];exact g2,by rw[aH (by rw[ea];omega),SA];exact g3,?_,λj zC=>?_⟩
  ·rw[aH (by rw[ea];omega)]
   rcases g4 with a|⟨n,a,b⟩
   ·exact .inl a
   ·exact .inr ⟨n,a,b.mono g⟩
  ·by_cases hji:j=i
   ·subst hji;rw[←es, ←ep,gJ us];exact hw
   ·have dz:bW o d j≠s:=by rw[es];unfold bW;omega
    rw[aH dz];exact(g5 j zC).mono g λk=>(ML _ k).resolve_right dz
 ·rintro e s' old new b te _ ie e0 rfl;exact h2 e old new b te ie e0
 ·intro s' w k;rw[kU] at k;by_cases hss:s'=s
  ·subst hss;exact hz w k
  ·have F:=h.dy s' w k;refine oU.keep g F (aH hss) ?_ ?_
   ·intro h5;rcases F.now with e|⟨_,new,b,te,_⟩
    ·obtain⟨o,p,_,_,h3⟩:=F.fit;rw[e] at h5;exact absurd h5 h3.Qv
    ·exact aH (e4 _ _ _ _ _ te)
   ·intro e old new b te oe;rw[ht] at te;exact⟨vi▸oe,te,λk=>by rw[aH (e4 _ _ _ _ _ te)];exact k⟩
theorem bs.SB (h:bs G m){a:Int}{r:Rec}(t:G.ty a=some r):1≤a∧a≤65536:=by
 have h1:=h.room a r t;have h2:=h.top;have:1≤r.size:=by cases r<;>simp[Rec.size]
 omega
theorem bs.idle (h:bs G m)(h5:kd (m.at s)≠5): ∀e old new b,G.ty e=some (.eA s old new b)→G.inst e→m.at (e+4)≠0:=by
 intro e old new b te ie e0;obtain⟨o,p,k1,k2,k3,k4,k5,k6,k7,k8,k9⟩:=h.iz _ _ te;rcases k8 with⟨_,k⟩|⟨k,_⟩|⟨k,_⟩
 ·rw[k ie,iA (by omega) (h.SB te)] at h5;exact h5 rfl
 ·omega
 ·omega
def Ga.install (G:Ga)(e:Int):Ga:={G with inst:=λx=>G.inst x∨x=e}
theorem Ga.hX (G:Ga)(e:Int):G.le (G.install e):=⟨λ_ _ h=>h,λ_ h=>h,λ_ h=>h,λ_ _ h=>h,λ_ h=>.inl h,λ_ h=>h,λ_ _ h=>h⟩
theorem bs.inst1 {e old new:Int}{b:Nat}(h:bs G m)(t0:G.ty e=some (.eA s old new b))(ho:m.at s=old)(hi: ¬G.inst e):bs (G.install e) (m.set s (fO 5 e)):=by
 have g:=G.hX e;obtain⟨o,p,k1,k2,k3,k4,k5,k6,k7,k8,k9⟩:=h.iz _ _ t0;have he:=h.SB t0;have k5':kd (m.at s)≠5:=by rw[ho];exact k2.Qv
 have z0:m.at (e+4)=0:=by
  rcases k8 with⟨k,_⟩|⟨_,k,_⟩|⟨_,k⟩
  ·exact k
  ·exact absurd k hi
  ·exact absurd k hi
 have nzs:G.nz s:=by
  rcases h.slot k1 with⟨a,_⟩|⟨a,_⟩
  ·rw[ho] at a;exact absurd a k2.Ux
  ·exact a
 have us:m.used s:=by
  obtain⟨d,q,j,t1,e1,e2,e3⟩:=k1.lt;rw[e1];exact h.used t1 ⟨by omega,e3⟩
 have Qw: ∀e' s' old new b,G.ty e'=some (.eA s' old new b)→∀j:Int,0≤j→j<5→e'+j≠s:=by
  rintro e' s' old new b te j h0 h5 rfl;obtain⟨d,q,j',t1,e1,e2,e3⟩:=k1.lt;have:=h.cell te t1 (i:=j) (j:=j') ⟨h0,by simp[Rec.size];omega⟩ ⟨by omega,e3⟩ e1
  subst this;rw[t1] at te;cases te
 refine h.vU g rfl k1 (λ_ k=>.inl k) rfl rfl ⟨Gv _ _,.inr ⟨nzs,.inr ⟨iA (by omega) he,?_,old,new,b,?_⟩⟩⟩ ?_ (h.idle k5') rfl rfl ?_ (λe' k=>.inl (h.lX e' k)) ?_
 ·rw[iV (by omega) he];exact .inr rfl
 ·rw[iV (by omega) he];exact t0
 ·intro c r tc _;by_cases hce:c=e
  ·subst hce;rw[t0] at tc;cases tc;refine .inr ⟨o,p,k1.mono g,k2.mono g,k3.mono g,?_,?_,?_,?_,?_,?_⟩
   ·have:=Qw c s old new b t0 0 (by omega) (by omega)
    rw[aH (by simpa using this)];exact k4
   ·rw[aH (Qw c s old new b t0 1 (by omega) (by omega))];exact k5
   ·rw[aH (Qw c s old new b t0 2 (by omega) (by omega))];exact k6
   ·rw[aH (Qw c s old new b t0 3 (by omega) (by omega))];exact k7
   ·refine .inl ⟨?_,λ_=>gJ us⟩
    rw[aH (Qw c s old new b t0 4 (by omega) (by omega))];exact z0
   ·intro o';rw[aH (Qw c s old new b t0 4 (by omega) (by omega))];exact k9 o'
  ·exact .inl λk=>k.resolve_right hce
 ·intro w k;have F:=h.dy s w k;have e1:m.at s=w:=by
   rcases F.now with a|⟨a,_⟩
   ·exact a
   ·exact absurd a k5'
  have ew:old=w:=by rw[←ho,e1]
  obtain⟨o',p',f1,f2,f3⟩:=F.fit;refine⟨⟨o',p',f1.mono g,f2,f3.mono g⟩,.inr ⟨?_,new,b,?_,?_⟩,?_⟩
  ·rw[gJ us];exact iA (by omega) he
  ·rw[gJ us,iV (by omega) he, ←ew];exact t0
  ·rw[gJ us,iV (by omega) he,aH (Qw e s old new b t0 4 (by omega) (by omega)),z0];decide
  ·intro e' im gh b' te oe;rw[aH (Qw e' s im gh b' te 4 (by omega) (by omega))]
   exact F.old e' im gh b' te oe
 ·rintro e' (k|rfl)
  ·exact h.inst e' k
  ·exact⟨s,old,new,b,t0⟩
theorem bs.rel {e old new x:Int}{b:Nat}(h:bs G m)(t0:G.ty e=some (.eA s old new b))(ho:m.at s=fO 5 e)(hx:(G.pD e 1∧x=new)∨(G.pD e 2∧x=old)):bs G (m.set s x):=by
 have g:=Ga.le.refl G;obtain⟨o,p,k1,k2,k3,k4,k5,k6,k7,k8,k9⟩:=h.iz _ _ t0;have he:=h.SB t0;have nzs:G.nz s:=by
  rcases h.slot k1 with⟨a,_⟩|⟨a,_⟩
  ·have:=iA (k:=5) (by omega) he
   rw[←ho,a,sC] at this;omega
  ·exact a
 have fx:db G p x:=by rcases hx with⟨_,rfl⟩|⟨_,rfl⟩<;>assumption
 have Ux:m.at (e+4)≠0:=by
  rcases hx with⟨a,_⟩|⟨a,_⟩
  ·have:=(k9 1).1 a;omega
  ·have:=(k9 2).1 a;omega
 have us:m.used s:=by
  obtain⟨d,q,j,t1,e1,e2,e3⟩:=k1.lt;rw[e1];exact h.used t1 ⟨by omega,e3⟩
 have Qw: ∀e' s' old new b,G.ty e'=some (.eA s' old new b)→∀j:Int,0≤j→j<5→e'+j≠s:=by
  rintro e' s' old new b te j h0 h5 rfl;obtain⟨d,q,j',t1,e1,e2,e3⟩:=k1.lt;have:=h.cell te t1 (i:=j) (j:=j') ⟨h0,by simp[Rec.size];omega⟩ ⟨by omega,e3⟩ e1
  subst this;rw[t1] at te;cases te
 refine h.vU g rfl k1 (λ_ k=>.inl k) rfl rfl ⟨fx.1.1,.inr ⟨nzs,.inl fx⟩⟩ (λ_ _ _ _=>.inl id) ?_ rfl rfl ?_ h.lX h.inst
 ·intro e' im gh b' te ie e0;obtain⟨o',p',l1,l2,l3,l4,l5,l6,l7,l8,l9⟩:=h.iz _ _ te;rcases l8 with⟨_,k⟩|⟨k,_⟩|⟨k,_⟩
  ·have:=k ie
   rw[ho] at this;have e':=congrArg aw this;rw[iV (by omega) he,iV (by omega) (h.SB te)] at e'
   subst e';exact Ux e0
  ·omega
  ·omega
 ·intro w k;have F:=h.dy s w k;obtain⟨o',p',f1,f2,f3⟩:=F.fit;have hn:old=w∧x=old:=by
   rcases F.now with a|⟨a,gh,b',te,l⟩
   ·rw[ho] at a;have:=f3.Qv
    rw[←a,iA (by omega) he] at this;exact absurd rfl this
   ·rw[ho,iV (by omega) he] at te l
    rw[t0] at te;cases te;rcases hx with⟨a,_⟩|⟨_,rfl⟩
    ·exact absurd ((k9 1).1 a).1 l
    ·exact⟨rfl,rfl⟩
  refine⟨⟨o',p',f1,f2,f3⟩,.inl ?_,?_⟩
  ·rw[gJ us,hn.2,hn.1]
  ·intro e' im gh b' te oe;rw[aH (Qw e' s im gh b' te 4 (by omega) (by omega))]
   exact F.old e' im gh b' te oe
theorem bs.part {x:Int}(h:bs G m)(hs:aQ G s o p)(h0:m.at s=0)(hx:db G p x):bs (G.LO s) (m.set s x):=by
 have g:=G.IX s;have k5:kd (m.at s)≠5:=by rw[h0,sC];omega
 refine h.vU g rfl hs (λ_ k=>k) rfl rfl ⟨hx.1.1,.inr ⟨.inr rfl,.inl (hx.mono g)⟩⟩ (λ_ _ _ _=>.inl id) (h.idle k5) rfl rfl ?_ h.lX h.inst
 intro w k;have F:=h.dy s w k;obtain⟨o',p',f1,f2,f3⟩:=F.fit;rcases F.now with a|⟨a,_⟩
 ·rw[h0] at a;exact absurd a.symm f3.Ux
 ·exact absurd a k5
end Go.Proofs.YtgfgglponbmgmaaGreatA.Y
end
