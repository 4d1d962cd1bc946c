/- Texts of the proof of helpLogic_holds, put together by a small program of ours (names shortened, spaces taken out). No condition beyond the given statement. -/
import Derived.Test.YtgfgglponbmgmaaGreatHLG22
set_option linter.unusedVariables false
set_option linter.unusedSimpArgs false
set_option linter.unnecessarySimpa false
noncomputable section
section
namespace Go.Proofs.YtgfgglponbmgmaaGreatA.Y
variable {G G':Ga} {m:Mm} {c s o:Int} {p:List Nat} {w:Int}
theorem bs.grow (h:bs G m)(g:G.le G')(ht:G'.ty=G.ty)(hn:G'.nz=G.nz)(hs:G'.shut=G.shut)(hi:G'.inst=G.inst)(hl:G'.pC=G.pC)(hf: ∀s w,G'.dx s w→oR G' m.at s w)(ho: ∀e,G'.lS e→G.inst e):bs G' m:=by
 refine⟨λa r k=>h.room a r (ht▸k),λa r b q k l=>h.Om a r b q (ht▸k) (ht▸l),λc r k=>?_,hf,λe k=>hi▸ho e k,λe k=>by rw[ht];exact h.inst e (hi▸k),?_,h.top⟩
 ·exact zR.keep g (h.ij c r (ht▸k)) (λ_ _ _=>rfl) (λ_ _ _ _ _ l=>hn▸l) (λ_ _ _ l=>hn▸l) (λl=>hs▸l) (λo l=>hl▸l) (λl=>hi▸l) λ_ _ _ _ _ _ _=>rfl
 ·exact⟨λs k=>h.fresh.1 s (hn▸k),λs k=>h.fresh.2.1 s (hs▸k),λe o k=>h.fresh.2.2 e o (hl▸k)⟩
def Ga.On (G:Ga)(c:Int):Ga:={G with lS:=λe=>G.lS e∨(G.inst e∧∃s old new b p,G.ty e=some (.ek s old new b)∧aQ G s c p)}
theorem Ga.Io (G:Ga)(c:Int):G.le (G.On c):=⟨λ_ _ h=>h,λ_ h=>h,λ_ h=>h,λ_ _ h=>h,λ_ h=>h,λ_ h=>.inl h,λ_ _ h=>h⟩
theorem bs.opens {d:Nat}{q:List Nat}(h:bs G m)(t0:G.ty c=some (.inner d q))(h0:m.at (c+2)=0):bs (G.On c) m:=by
 have g:=G.Io c;have nsh: ¬G.shut c:=by
  obtain⟨_,_,h3,_⟩:=h.ij _ _ t0;rcases h3 with⟨_,a⟩|⟨a,_⟩
  ·exact a
  ·omega
 refine h.grow g rfl rfl rfl rfl rfl ?_ ?_
 ·intro s w k;have F:=h.dx s w k;obtain⟨o,p,f1,f2,f3⟩:=F.fit;refine⟨⟨o,p,f1.mono g,f2,f3.mono g⟩,?_,?_⟩
  ·rcases F.now with a|⟨a,new,b,k1,k2⟩
   ·exact .inl a
   ·exact .inr ⟨a,new,b,k1,k2⟩
  ·intro e old new b te oe;rcases oe with k1|⟨_,s',hX,fX,b',p',t',so⟩
   ·exact F.old e old new b te k1
   ·have te':G.ty e=some (.ek s old new b):=te;rw[te'] at t';cases t';have:=(aQ.uniq h f1 so).1
    subst this;exact absurd f2 nsh
 ·rintro e (k|⟨k,_⟩)
  ·exact h.lS e k
  ·exact k
def Ga.freeze (G:Ga)(s w:Int):Ga:={G with dx:=λx y=>G.dx x y∨(x=s∧y=w)}
theorem Ga.AR (G:Ga)(s w:Int):G.le (G.freeze s w):=⟨λ_ _ h=>h,λ_ h=>h,λ_ h=>h,λ_ _ h=>.inl h,λ_ h=>h,λ_ h=>h,λ_ _ h=>h⟩
theorem bs.RS (h:bs G m)(hs:aQ G s o p)(RQ:G.shut o)(hw:da G p (m.at s)):bs (G.freeze s (m.at s)) m:=by
 have g:=G.AR s (m.at s);refine h.grow g rfl rfl rfl rfl rfl ?_ λe k=>h.lS e k
 rintro s' w (k|⟨rfl,rfl⟩)
 ·have F:=h.dx s' w k;obtain⟨o,p,f1,f2,f3⟩:=F.fit;exact⟨⟨o,p,f1.mono g,f2,f3.mono g⟩,F.now,F.old⟩
 ·exact⟨⟨o,p,hs.mono g,RQ,hw.mono g⟩,.inl rfl,λe old new b te oe=>h.idle hw.PJ e old new b te (h.lS e oe)⟩
theorem bs.ZS (h:bs G m){w':Int}(a:G.dx s w)(b:G.dx s w'):w=w':=by
 have A:=h.dx s w a;have B:=h.dx s w' b;obtain⟨_,_,_,_,fa⟩:=A.fit;obtain⟨_,_,_,_,fb⟩:=B.fit;rcases A.now with e|⟨e,new,b,t,_⟩<;>rcases B.now with e'|⟨e',fX,b',t',_⟩
 ·rw[←e, ←e']
 ·rw[e] at e';exact absurd e' fa.PJ
 ·rw[e'] at e;exact absurd e fb.PJ
 ·rw[t] at t';cases t';rfl
mutual
theorem sk.uniq (hf: ∀s w w',G.dx s w→G.dx s w'→w=w'): ∀{c n k},sk G c n→sk G c k→n=k
 |_,_,_,.mk h _ a,.mk h' _ b=>by rw[h] at h';cases h';exact gi.uniq hf a b
theorem gi.uniq (hf: ∀s w w',G.dx s w→G.dx s w'→w=w'): ∀{c d i n k},gi G c d i n→gi G c d i k→n=k
 |_,_,_,_,_,.zero,.zero=>rfl
 |_,_,_,_,_,.leaf a f k,b=>by
  cases b with
  |leaf a' f' k'=>rw[gi.uniq hf a a']
  |inner a' f' k' _=>have:=hf _ _ _ f f';subst this;omega
  |bT a' f' k' _ _=>have:=hf _ _ _ f f';subst this;omega
  |empty a' f' k'=>have:=hf _ _ _ f f';subst this;omega
 |_,_,_,_,_,.inner a f k x,b=>by
  cases b with
  |leaf a' f' k'=>have:=hf _ _ _ f f';subst this;omega
  |inner a' f' k' x'=>have:=hf _ _ _ f f';subst this;rw[gi.uniq hf a a',sk.uniq hf x x']
  |bT a' f' k' _ _=>have:=hf _ _ _ f f';subst this;omega
  |empty a' f' k'=>have:=hf _ _ _ f f';subst this;omega
 |_,_,_,_,_,.bT a f k t x,b=>by
  cases b with
  |leaf a' f' k'=>have:=hf _ _ _ f f';subst this;omega
  |inner a' f' k' x'=>have:=hf _ _ _ f f';subst this;omega
  |bT a' f' k' t' x'=>have:=hf _ _ _ f f';subst this;rw[t] at t';cases t';rw[gi.uniq hf a a',sk.uniq hf x x']
  |empty a' f' k'=>have:=hf _ _ _ f f';subst this;omega
 |_,_,_,_,_,.empty a f k,b=>by
  cases b with
  |leaf a' f' k'=>have:=hf _ _ _ f f';subst this;omega
  |inner a' f' k' x'=>have:=hf _ _ _ f f';subst this;omega
  |bT a' f' k' _ _=>have:=hf _ _ _ f f';subst this;omega
  |empty a' f' k'=>exact gi.uniq hf a a'
end
def qE (G:Ga)(a:Int)(w:List Int):Rec→Prop
 | .leaf=>w.length=2
 | .empty=>w.length=1
 | .inner d p=>1≤d∧∃n q cs,w=cP n q cs∧cs.length=d∧q.length+1=d∧∀i,i<d→cs.getD i 0=0∨da G (p++[i]) (cs.getD i 0)
 | .bT t s=>∃o p d x,aQ G s o p∧G.ty t=some (.inner d p)∧full G t d∧kd x=3∧aw x=t∧w=jg x (o+2) s
 | .ek s old new _=>∃o p,aQ G s o p∧da G p old∧da G p new∧w=fj (o+2) s old new
theorem qE.size {a:Int}{ws:List Int}{r:Rec}(h:qE G a ws r):ws.length=r.size:=by
 cases r with
 |leaf=>exact h
 |empty=>exact h
 |inner d p=>
  obtain⟨h1,n,q,cs,rfl,h2,h3,_⟩:=h;unfold cP;rw[if_neg (by omega)]
  simp[Rec.size];omega
 |bT t s=>
  obtain⟨o,p,d,x,_,_,_,_,_,rfl⟩:=h;rfl
 |ek s old new b=>
  obtain⟨o,p,_,_,_,rfl⟩:=h;rfl
def Ga.make (G:Ga)(a:Int)(r:Rec)(ws:List Int):Ga:=
 {G with ty:=λx=>if x=a then some r else G.ty x,nz:=λs=>G.nz s∨(∃d p i,r= .inner d p∧i<d∧s=bV a d i∧ws.getD (4+d+i) 0≠0)}
theorem bs.Ea (h:bs G m):G.ty (m.cs.length+1)=none:=by
 cases e:G.ty (m.cs.length+1) with
 |none=>rfl
 |some r=>
  have:=h.room _ _ e
  have:1≤r.size:=by cases r<;>simp[Rec.size]
  omega
theorem Ga.nv {a:Int}{r:Rec}{ws:List Int}(h:G.ty a=none):G.le (G.make a r ws):=by
 refine⟨λx r' k=>?_,λ_ h=>.inl h,λ_ h=>h,λ_ _ h=>h,λ_ h=>h,λ_ h=>h,λ_ _ h=>h⟩
 unfold Ga.make;show(if x=a then some r else G.ty x)=some r'
 by_cases e:x=a
 ·subst e;rw[h] at k;cases k
 ·rw[if_neg e];exact k
theorem bs.make {r:Rec}{ws:List Int}(h:bs G m)(hw:qE G (m.cs.length+1) ws r)(hm:ws.length+m.cs.length≤m.max):
  bs (G.make (m.cs.length+1) r ws) ⟨m.cs++ws,m.max⟩:=by
 have n1:=h.Ea;have g:G.le (G.make (m.cs.length+1) r ws):=Ga.nv n1;have sz:=hw.size;have ZT:(G.make (m.cs.length+1) r ws).ty (m.cs.length+1)=some r:=by simp[Ga.make]
 have told: ∀x q,(G.make (m.cs.length+1) r ws).ty x=some q→x≠m.cs.length+1→G.ty x=some q:=λx q k dy=>by simpa[Ga.make,dy] using k
 have tlt: ∀x q,G.ty x=some q→x≠m.cs.length+1:=λx q k e=>by rw[e,n1] at k;cases k
 have old: ∀b:Int,b≤m.cs.length→(Mm.mk (m.cs++ws) m.max).at b=m.at b:=λb hb=>FW hb
 have new: ∀j:Nat,j<ws.length→(Mm.mk (m.cs++ws) m.max).at (m.cs.length+1+j)=ws.getD j 0:=λj hj=>Ol hj
 refine⟨?_,?_,?_,?_,h.lS,?_,?_,⟨by simp;omega,h.top.2⟩⟩
 ·intro a q k;by_cases e:a=m.cs.length+1
  ·subst e;rw[ZT] at k;cases k;simp;omega
  ·have:=h.room a q (told a q k e)
   simp;omega
 ·intro a q b q' k l dy;by_cases e:a=m.cs.length+1
  ·have e':b≠m.cs.length+1:=λx=>dy (by rw[e,x])
   have:=h.room b q' (told b q' l e')
   omega
  ·by_cases e':b=m.cs.length+1
   ·have:=h.room a q (told a q k e)
    omega
   ·exact h.Om a q b q' (told a q k e) (told b q' l e') dy
 ·intro c q k;by_cases e:c=m.cs.length+1
  ·subst e;rw[ZT] at k;cases k;have N: ∀j:Nat,j<r.size→(Mm.mk (m.cs++ws) m.max).at (m.cs.length+1+j)=ws.getD j 0:=λj hj=>new j (by omega)
   have nsh: ¬G.shut (m.cs.length+1):=λk=>by have:=h.fresh.2.1 _ k;omega
   have nst: ∀o,¬G.pC (m.cs.length+1) o:=λo k=>by have:=h.fresh.2.2 _ _ k;omega
   have nin: ¬G.inst (m.cs.length+1):=λk=>by
    obtain⟨s,old,new,b,t⟩:=h.inst _ k;rw[n1] at t;cases t
   cases r with
   |leaf=>trivial
   |empty=>trivial
   |inner d p=>
    obtain⟨h1,n,q,cs,rfl,h2,h3,h4⟩:=hw;have hl:cs.length=q.length+1:=by omega
    have W:cP n q cs=[(cs.length:Int),n,0,0,0]++q++cs:=by unfold cP;rw[if_neg (by omega)]
    have s0: ∀j:Nat,j<5→j<(Rec.inner d p).size:=λj hj=>by simp[Rec.size];omega
    refine⟨h1,?_,.inl ⟨?_,nsh⟩,.inl ?_,λi hi=>?_⟩
    ·have e:=N 0 (s0 0 (by omega))
     have v:(cP n q cs).getD 0 0=d:=by rw[W];simp[h2]
     rw[v] at e;simpa using e
    ·have e:=N 2 (s0 2 (by omega))
     have v:(cP n q cs).getD 2 0=0:=by rw[W];simp
     rw[v] at e;simpa using e
    ·have e:=N 4 (s0 4 (by omega))
     have v:(cP n q cs).getD 4 0=0:=by rw[W];simp
     rw[v] at e;simpa using e
    ·have e1:=N (4+d+i) (by simp[Rec.size];omega)
     have e2:(cP n q cs).getD (4+d+i) 0=cs.getD i 0:=by
      rw[W];simp only[List.getD_eq_getElem?_getD];rw[List.getElem?_append_right (by simp;omega)]
      congr 2;simp;omega
     have e3:bV (m.cs.length+1) d i=m.cs.length+1+((4+d+i:Nat):Int):=by unfold bV;omega
     rw[e3,e1,e2];by_cases hz:cs.getD i 0=0
     ·refine⟨by omega,.inl ⟨hz,?_⟩⟩
      rintro(k|⟨d',p',i',e,sO,k,l⟩)
      ·have:=h.fresh.1 _ k;omega
      ·cases e;have:i'=i:=by unfold bV at k;omega
       subst this;exact l (by rw[e2];exact hz)
     ·refine⟨((h4 i hi).resolve_left hz).1.1,.inr ⟨.inr ⟨d,p,i,rfl,hi,e3.symm,by rw[e2];exact hz⟩,.inl ?_⟩⟩
      exact((h4 i hi).resolve_left hz).mono g
   |bT t s=>
    obtain⟨o,p,d,x,k1,k2,k3,k4,k5,rfl⟩:=hw;have a0:=N 0 (by simp[Rec.size]);have a1:=N 1 (by simp[Rec.size]);have a2:=N 2 (by simp[Rec.size]);have a3:=N 3 (by simp[Rec.size])
    simp[jg] at a0 a1 a2 a3;refine⟨o,p,d,k1.mono g,g.ty _ _ k2,full.mono g k3,by rw[jg,a0];exact k4,by rw[jg,a0];exact k5,by rw[jg,a1],by rw[jg,a2],.inl ⟨by rw[jg,a3],?_⟩⟩
    rintro(k|⟨d',p',i',e,_⟩)
    ·have:=h.fresh.1 _ k;omega
    ·cases e
   |ek s hX fX b=>
    obtain⟨o,p,k1,k2,k3,rfl⟩:=hw;have a0:=N 0 (by simp[Rec.size]);have a1:=N 1 (by simp[Rec.size]);have a2:=N 2 (by simp[Rec.size]);have a3:=N 3 (by simp[Rec.size]);have a4:=N 4 (by simp[Rec.size])
    simp[fj] at a0 a1 a2 a3 a4;exact⟨o,p,k1.mono g,k2.mono g,k3.mono g,by rw[fj,a0],by rw[fj,a1],by rw[fj,a2],by rw[fj,a3],.inl ⟨by rw[fj,a4],λk=>absurd k nin⟩,λo=>⟨λk=>absurd k (nst o),λk=>by rw[fj,a4] at k;exact absurd k.1.symm k.2⟩⟩
  ·have tc:=told c q k e;have rm:=h.room c q tc;refine zR.keep g (h.ij c q tc) (λj j0 j1=>old _ (by omega)) ?_ ?_ id (λ_=>id) id ?_
   ·rintro d p i rfl hi (k|⟨d',p',i',e',sO,k,l⟩)
    ·exact k
    ·exfalso
     simp[Rec.size] at rm;unfold bV at k;omega
   ·rintro t s rfl (k|⟨d',p',i',e',sO,k,l⟩)
    ·exact k
    ·exfalso
     simp[Rec.size] at rm;unfold bV at k;omega
   ·rintro s hX fX b rfl _ _;obtain⟨o,p,so,_⟩:=h.AP tc;obtain⟨d,q',j,t1,e1,e2,e3⟩:=so.lt;have:=h.room _ _ t1
    exact old s (by omega)
 ·intro s w k;have F:=h.dx s w k;obtain⟨o,p,f1,_⟩:=F.fit;obtain⟨d,q',j,t1,e1,e2,e3⟩:=f1.lt;have r1:=h.room _ _ t1;refine oR.keep g F (old s (by omega)) ?_ ?_
  ·intro h5;rcases F.now with e|⟨_,new,b,te,_⟩
   ·obtain⟨o,p,_,_,h3⟩:=F.fit;rw[e] at h5;exact absurd h5 h3.PJ
   ·have:=h.room _ _ te
    simp[Rec.size] at this;exact old _ (by omega)
  ·intro e hX fX b te oe;obtain⟨s',o2,n2,b2,t2⟩:=h.inst e (h.lS e oe);have te':=told e _ te (tlt e _ t2);have:=h.room _ _ te'
   simp[Rec.size] at this;exact⟨oe,te',λk=>by rw[old _ (by omega)];exact k⟩
 ·intro e k;obtain⟨s',o2,n2,b2,t2⟩:=h.inst e k;exact⟨s',o2,n2,b2,g.ty _ _ t2⟩
 ·refine⟨λs k=>?_,λc k=>?_,λe o k=>?_⟩
  ·rcases k with k|⟨d,p,i,rfl,hi,rfl,_⟩
   ·have:=h.fresh.1 s k;simp;omega
   ·simp[Rec.size] at sz;unfold bV;simp;omega
  ·have:=h.fresh.2.1 c k;simp;omega
  ·have:=h.fresh.2.2 e o k;simp;omega
variable {G G':Ga} {m:Mm} {c s o:Int} {p:List Nat} {w:Int}
theorem adQ: ∀(N:Nat) (L:List Int),L.Nodup→(∀x∈L,1≤x∧x≤N)→L.length≤N
 |0,L,_,h=>by
  cases L with
  |nil=>simp
  |cons x l=>have:=h x (by simp);omega
 |N+1,L,hn,h=>by
  by_cases hm:((N+1:Nat):Int)∈L
  ·have h1:=adQ N (L.erase ((N+1:Nat):Int)) (hn.erase _) λx hx=>by
    have h2:=(hn.mem_erase_iff).1 hx;have:=h x h2.2
    have:=h2.1
    omega
   rw[List.length_erase_of_mem hm] at h1;have:0<L.length:=List.length_pos_of_mem hm;omega
  ·have:=adQ N L hn λx hx=>by
    have h2:=h x hx;have:x≠((N+1:Nat):Int):=λe=>hm (e▸hx)
    omega
   omega
theorem aQ.in' (h:bs G m)(k:aQ G s o p):1≤s∧s≤m.cs.length:=by
 obtain⟨d,q,j,t,e,h5,hj⟩:=k.lt;have:=h.room _ _ t
 omega
def iy (G:Ga)(P:List Nat→Prop)(L:List Int):Prop:=L.Nodup∧∀s∈L,∃o q,aQ G s o q∧P q
theorem iy.len (h:bs G m){P:List Nat→Prop}{L:List Int}(k:iy G P L):L.length≤m.cs.length:=
 adQ _ _ k.1 λx hx=>by
  obtain⟨o,q,so,_⟩:=k.2 x hx;exact so.in' h
theorem iy.app (h:bs G m){P Q R:List Nat→Prop}{L M:List Int}(a:iy G P L)(b:iy G Q M)(hd: ∀q,P q→¬Q q)(hp: ∀q,P q→R q)(hq: ∀q,Q q→R q):iy G R (L++M):=by
 refine⟨List.nodup_append.2 ⟨a.1,b.1,λx hx y hy e=>?_⟩,λs hs=>?_⟩
 ·subst e;obtain⟨o,q,so,pq⟩:=a.2 x hx;obtain⟨o',q',Ip,pq'⟩:=b.2 x hy;have:=(aQ.uniq h so Ip).2
  subst this;exact hd _ pq pq'
 ·rcases List.mem_append.1 hs with k|k
  ·obtain⟨o,q,so,pq⟩:=a.2 s k;exact⟨o,q,so,hp _ pq⟩
  ·obtain⟨o,q,so,pq⟩:=b.2 s k;exact⟨o,q,so,hq _ pq⟩
theorem jh {p q:List Nat}{i j:Nat}(a:p++[i] <+:q)(b:p++[j] <+:q):i=j:=by
 obtain⟨x,ex⟩:=a;obtain⟨y,ey⟩:=b;rw[←ey] at ex;simp at ex;exact ex.1
mutual
theorem sk.under (h:bs G m): ∀{c n},sk G c n→∃d p L,G.ty c=some (.inner d p)∧iy G (λq=>p <+:q) L∧L.length=n
 |c,n,.mk (d:=d) (p:=p) t _ k=>by
  obtain⟨L,h1,h2⟩:=gi.under h k _ t (Nat.le_refl _);exact⟨d,p,L,t,⟨h1.1,λs hs=>by
   obtain⟨o,q,so,j,_,pq⟩:=h1.2 s hs;exact⟨o,q,so,(List.prefix_append _ _).trans pq⟩⟩,h2⟩
theorem gi.under (h:bs G m): ∀{c d i n},gi G c d i n→∀p,G.ty c=some (.inner d p)→i≤d→∃L,iy G (λq=>∃j,j<i∧p++[j] <+:q) L∧L.length=n
 |_,_,_,_,.zero=>λ_ _ _=>⟨[],⟨List.nodup_nil,λs hs=>by cases hs⟩,rfl⟩
 |c,d,_,_,.leaf (i:=i) (n:=n) (w:=w) a f k=>by
  intro p t hi;obtain⟨L,h1,h2⟩:=gi.under h a _ t (by omega)
  have so:aQ G (bV c d i) c (p++[i]):=⟨d,p,i,t,by omega,rfl,rfl⟩
  have u:iy G (λq=>q=p++[i]) [bV c d i]:=⟨by simp,λs hs=>by
   rw[List.mem_singleton] at hs;subst hs;exact⟨c,_,so,rfl⟩⟩
  refine⟨L++[bV c d i],iy.app h h1 u ?_ ?_ ?_,by simp[h2]⟩
  ·rintro q ⟨j,hj,pj⟩ rfl;have:=jh pj (List.prefix_refl _)
   omega
  ·rintro q ⟨j,hj,pj⟩;exact⟨j,by omega,pj⟩
  ·rintro q rfl;exact⟨i,by omega,List.prefix_refl _⟩
 |c,d,_,_,.inner (i:=i) (n:=n) (w:=w) (k:=k) a f hk hc=>by
  intro p t hi;obtain⟨L,h1,h2⟩:=gi.under h a _ t (by omega)
  obtain⟨d',p',L',t',u',l'⟩:=sk.under h hc;have so:aQ G (bV c d i) c (p++[i]):=⟨d,p,i,t,by omega,rfl,rfl⟩
  have ep:p'=p++[i]:=by
   obtain⟨o,q,Ip,_,fw⟩:=(h.dx _ _ f).fit;have:=(aQ.uniq h so Ip).2
   rcases fw.2 with x|x|⟨_,d2,t2,_⟩|⟨x,_⟩
   ·omega
   ·omega
   ·rw[t'] at t2;cases t2;exact this.symm
   ·omega
  subst ep;refine⟨L++L',iy.app h h1 u' ?_ ?_ ?_,by simp[h2,l']⟩
  ·rintro q ⟨j,hj,pj⟩ pi;have:=jh pj pi
   omega
  ·rintro q ⟨j,hj,pj⟩;exact⟨j,by omega,pj⟩
  ·intro q pi;exact⟨i,by omega,pi⟩
 |c,d,_,_,.bT (i:=i) (n:=n) (w:=w) (k:=k) (c':=c') (s:=s') a f hk ht hc=>by
  intro p t hi;obtain⟨L,h1,h2⟩:=gi.under h a _ t (by omega)
  obtain⟨d',p',L',t',u',l'⟩:=sk.under h hc;have so:aQ G (bV c d i) c (p++[i]):=⟨d,p,i,t,by omega,rfl,rfl⟩
  have ep:p'=p++[i]:=by
   obtain⟨o,q,Ip,_,fw⟩:=(h.dx _ _ f).fit;have:=(aQ.uniq h so Ip).2
   rcases fw.2 with x|x|⟨x,_⟩|⟨_,c2,s2,o2,d2,t2,_,t3,_⟩
   ·omega
   ·omega
   ·omega
   ·rw[ht] at t2;cases t2;rw[t'] at t3;cases t3;exact this.symm
  subst ep;refine⟨L++L',iy.app h h1 u' ?_ ?_ ?_,by simp[h2,l']⟩
  ·rintro q ⟨j,hj,pj⟩ pi;have:=jh pj pi
   omega
  ·rintro q ⟨j,hj,pj⟩;exact⟨j,by omega,pj⟩
  ·intro q pi;exact⟨i,by omega,pi⟩
 |c,d,_,_,.empty (i:=i) (n:=n) (w:=w) a f hk=>by
  intro p t hi;obtain⟨L,h1,h2⟩:=gi.under h a _ t (by omega)
  exact⟨L,⟨h1.1,λs hs=>by
   obtain⟨o,q,so,j,hj,pq⟩:=h1.2 s hs;exact⟨o,q,so,j,by omega,pq⟩⟩,h2⟩
end
theorem sk.le (h:bs G m){n:Nat}(k:sk G c n):n≤16384:=by
 obtain⟨d,p,L,_,u,e⟩:=k.under h;have:=u.len h
 have:=h.top
 omega
theorem gi.le (h:bs G m){d i n:Nat}(t:G.ty c=some (.inner d p))(hi:i≤d)(k:gi G c d i n):n≤16384:=by
 obtain⟨L,u,e⟩:=k.under h _ t hi;have:=u.len h
 have:=h.top
 omega
structure LeT (t:Nat) (G G':Ga):Prop where
 le:G.le G'
 own: ∀e s old new,G.ty e=some (.ek s old new t)→G'.inst e→G.inst e
theorem LeT.refl (t:Nat)(G:Ga):LeT t G G:=⟨Ga.le.refl G,λ_ _ _ _ _ h=>h⟩
theorem LeT.trans {t:Nat}{A B C:Ga}(h:LeT t A B)(k:LeT t B C):LeT t A C:=
 ⟨h.le.trans k.le,λe s old new a b=>h.own e s old new a (k.own e s old new (h.le.ty _ _ a) b)⟩
structure Own (t:Nat) (G G':Ga):Prop where
 le:G.le G'
 own: ∀e s old new u,u≠t→G.ty e=some (.ek s old new u)→G'.inst e→G.inst e
theorem Own.of {t:Nat}(h:G.le G')(k: ∀e,G'.inst e→G.inst e):Own t G G':=⟨h,λe _ _ _ _ _ _ x=>k e x⟩
theorem Own.refl (t:Nat)(G:Ga):Own t G G:=Own.of (Ga.le.refl G) λ_ h=>h
theorem Own.let' {t u:Nat}(h:Own t G G')(hu:u≠t):LeT u G G':=⟨h.le,λe s old new a b=>h.own e s old new u hu a b⟩
theorem Own.trans {t:Nat}{A B C:Ga}(h:Own t A B)(k:Own t B C):Own t A C:=
 ⟨h.le.trans k.le,λe s old new u hu a b=>h.own e s old new u hu a (k.own e s old new u hu (h.le.ty _ _ a) b)⟩
variable {α β:Type} {t:Nat}
def Safe (t:Nat):Nat→Tr α→Ga→(Nat→α→Ga→Prop)→Prop
 |0,_,_,_=>True
 |n+1,.ret a,G,Q=>∀G' m,LeT t G G'→bs G' m→Q (n+1) a G'
 |n+1,.ask q k,G,Q=>∀G' m,LeT t G G'→bs G' m→∃Oo,bs Oo (eB m q).2∧Own t G' Oo∧Safe t n (k (eB m q).1) Oo Q
 |n+1,.off k,G,Q=>Safe t (n+1) (k false) G Q
 |n+1,.rc _ u,G,Q=>Safe t (n+1) u G Q
 |n+1,.ld u,G,Q=>Safe t (n+1) u G Q
variable {n:Nat}
theorem Safe.zero {u:Tr α}{Q:Nat→α→Ga→Prop}:Safe t 0 u G Q:=by cases u<;>trivial
theorem Safe.mono {u:Tr α}{Q:Nat→α→Ga→Prop}(h:Safe t n u G Q)(g:LeT t G G'):Safe t n u G' Q:=by
 induction u generalizing G G' n with
 |ret a=>cases n with
  |zero=>trivial
  |succ n=>exact λG2 m k=>h G2 m (g.trans k)
 |ask q k ih=>cases n with
  |zero=>trivial
  |succ n=>exact λG2 m k=>h G2 m (g.trans k)
 |off k ih=>cases n with
  |zero=>trivial
  |succ n=>exact ih false h g
 |rc r u ih=>cases n with
  |zero=>trivial
  |succ n=>exact ih h g
 |ld u ih=>cases n with
  |zero=>trivial
  |succ n=>exact ih h g
theorem Safe.wk {u:Tr α}{Q R:Nat→α→Ga→Prop}(h:Safe t n u G Q)(k: ∀j a G',j≤n→G.le G'→Q j a G'→R j a G'):Safe t n u G R:=by
 induction u generalizing G n with
 |ret a=>cases n with
  |zero=>trivial
  |succ n=>exact λG2 m l i=>k _ a G2 (Nat.le_refl _) l.le (h G2 m l i)
 |ask q f ih=>cases n with
  |zero=>trivial
  |succ n=>
   intro G2 m l i;obtain⟨G3,h1,h2,h3⟩:=h G2 m l i;exact⟨G3,h1,h2,ih _ h3 λj a G' hj g=>k j a G' (by omega) (l.le.trans (h2.le.trans g))⟩
 |off f ih=>cases n with
  |zero=>trivial
  |succ n=>exact ih false h k
 |rc r u ih=>cases n with
  |zero=>trivial
  |succ n=>exact ih h k
 |ld u ih=>cases n with
  |zero=>trivial
  |succ n=>exact ih h k
theorem Safe.real {u:Tr α}{Q:Nat→α→Ga→Prop}(h: ∀G' m,LeT t G G'→bs G' m→Safe t n u G' Q):Safe t n u G Q:=by
 induction u generalizing G n with
 |ret a=>cases n with
  |zero=>trivial
  |succ n=>exact λG2 m l i=>h G2 m l i G2 m (LeT.refl _ _) i
 |ask q k ih=>cases n with
  |zero=>trivial
  |succ n=>exact λG2 m l i=>h G2 m l i G2 m (LeT.refl _ _) i
 |off k ih=>cases n with
  |zero=>trivial
  |succ n=>exact ih false h
 |rc r u ih=>cases n with
  |zero=>trivial
  |succ n=>exact ih h
 |ld u ih=>cases n with
  |zero=>trivial
  |succ n=>exact ih h
theorem Safe.bind {u:Tr α}{f:α→Tr β}{Q:Nat→β→Ga→Prop}(h:Safe t n u G λj a G'=>Safe t j (f a) G' Q):Safe t n (u >>= f) G Q:=by
 induction u generalizing G n with
 |ret a=>cases n with
  |zero=>exact Safe.zero
  |succ n=>exact Safe.real h
 |ask q k ih=>cases n with
  |zero=>trivial
  |succ n=>
   intro G2 m l i;obtain⟨G3,h1,h2,h3⟩:=h G2 m l i;exact⟨G3,h1,h2,ih _ h3⟩
 |off k ih=>cases n with
  |zero=>trivial
  |succ n=>exact ih false h
 |rc r u ih=>cases n with
  |zero=>trivial
  |succ n=>exact ih h
 |ld u ih=>cases n with
  |zero=>trivial
  |succ n=>exact ih h
theorem Safe.ret {a:α}{Q:Nat→α→Ga→Prop}(h: ∀G' m,LeT t G G'→bs G' m→n≠0→Q n a G'):Safe t n (.ret a) G Q:=by
 cases n with
 |zero=>trivial
 |succ n=>exact λG2 m l i=>h G2 m l i (by omega)
theorem Safe.ask {q:Ask}{k:Int→Tr α}{Q:Nat→α→Ga→Prop}(h: ∀G' m j,LeT t G G'→bs G' m→j+1=n→∃Oo,bs Oo (eB m q).2∧Own t G' Oo∧Safe t j (k (eB m q).1) Oo Q):Safe t n (.ask q k) G Q:=by
 cases n with
 |zero=>trivial
 |succ n=>exact λG2 m l i=>h G2 m n l i rfl
theorem Safe.step {u:Tr α}{Q:Nat→α→Ga→Prop}{q:Ask}{k:Int→Tr α}(h:Safe t (n+1) u G Q)(e:norm u= .ask q k)(i:bs G m): ∃G',bs G' (eB m q).2∧Own t G G'∧Safe t n (k (eB m q).1) G' Q:=by
 induction u with
 |ret a=>simp[norm] at e
 |ask q' k' ih=>simp only[norm] at e;cases e;exact h G m (LeT.refl _ _) i
 |off f ih=>exact ih false h e
 |rc r u ih=>exact ih h e
 |ld u ih=>exact ih h e
variable {G:Ga} {c s o:Int} {p:List Nat} {α β:Type} {t n:Nat} {f:Int→Tr α} {Q:Nat→α→Ga→Prop}
theorem kH {a:Int}(h: ∀G' m j,LeT t G G'→bs G' m→j+1=n→Safe t j (f (m.at a)) G' Q):Safe t n (rd a >>= f) G Q:=
 Safe.ask (q:=.rd a) (k:=f) λG' m j l i e=>⟨G',i,Own.refl _ _,h G' m j l i e⟩
theorem Tx (so:aQ G s o p)(h: ∀G' m j,LeT t G G'→bs G' m→j+1=n→(G.shut o→da G' p (m.at s)→G'.dx s (m.at s))→Safe t j (f (m.at s)) G' Q):Safe t n (rd s >>= f) G Q:=by
 refine Safe.ask (q:=.rd s) (k:=f) λG' m j l i e=>?_
 by_cases hc:G'.shut o∧da G' p (m.at s)
 ·have g:=G'.AR s (m.at s);have Ip:=so.mono l.le;have i':=i.RS Ip hc.1 hc.2;refine⟨G'.freeze s (m.at s),i',Own.of g λ_ k=>k,h _ m j (l.trans ⟨g,λ_ _ _ _ _ k=>k⟩) i' e λ_ _=>.inr ⟨rfl,rfl⟩⟩
 ·exact⟨G',i,Own.refl _ _,h G' m j l i e λa b=>absurd ⟨l.le.shut _ a,b⟩ hc⟩
theorem Ty {d:Nat}{q:List Nat}(t0:G.ty c=some (.inner d q))(h: ∀G' m j,LeT t G G'→bs G' m→j+1=n→(m.at (c+2)=0→∀e s old new b p,G.inst e→G.ty e=some (.ek s old new b)→aQ G s c p→G'.lS e)→Safe t j (f (m.at (c+2))) G' Q):Safe t n (rd (c+2) >>= f) G Q:=by
 refine Safe.ask (q:=.rd (c+2)) (k:=f) λG' m j l i e=>?_
 by_cases hc:m.at (c+2)=0
 ·have g:=G'.Io c;have i':=i.opens (l.le.ty _ _ t0) hc;exact⟨G'.On c,i',Own.of g λ_ k=>k,h _ m j (l.trans ⟨g,λ_ _ _ _ _ k=>k⟩) i' e λ_ e s old new b p k1 k2 k3=>.inr ⟨l.le.inst _ k1,s,old,new,b,p,l.le.ty _ _ k2,k3.mono l.le⟩⟩
 ·exact⟨G',i,Own.refl _ _,h G' m j l i e λk=>absurd k hc⟩
theorem LeT.of {A B:Ga}(g:A.le B)(k: ∀e,B.inst e→A.inst e):LeT t A B:=⟨g,λe _ _ _ _ x=>k e x⟩
theorem ZU {d:Nat}{q:List Nat}(t0:G.ty c=some (.inner d q))(h: ∀G' z j,LeT t G G'→j+1=n→G'.shut c→Safe t j (f z) G' Q):Safe t n (wt (c+2) 1 >>= f) G Q:=
 Safe.ask (q:=.wr (c+2) 1) (k:=f) λG' m j l i e=>
  ⟨G'.Cz c,i.guard (l.le.ty _ _ t0),Own.of (G'.vG c) λ_ k=>k,h _ 0 j (l.trans (.of (G'.vG c) λ_ k=>k)) e (.inr rfl)⟩
theorem ZV {d k:Nat}{q:List Nat}(t0:G.ty c=some (.inner d q))(hk:sk G c k)(h: ∀G' z j,LeT t G G'→j+1=n→Safe t j (f z) G' Q):Safe t n (wt (c+4) (k+1) >>= f) G Q:=
 Safe.ask (q:=.wr (c+4) (k+1)) (k:=f) λG' m j l i e=>
  ⟨G',i.tell (l.le.ty _ _ t0) (hk.mono l.le),Own.refl _ _,h _ 0 j l e⟩
theorem ZW {d:Nat}{q:List Nat}{x i:Int}(t0:G.ty c=some (.inner d q))(hi:1≤i∧i<d)(h: ∀G' z j,LeT t G G'→j+1=n→Safe t j (f z) G' Q):Safe t n (wt (c+4+i) x >>= f) G Q:=
 Safe.ask (q:=.wr (c+4+i) x) (k:=f) λG' m j l iv e=>
  ⟨G',iv.free (l.le.ty _ _ t0) (j0:=4+i) ⟨by omega,by simp[Rec.size];omega⟩ (by omega) (.inl ⟨d,q,rfl,.inr (by omega)⟩),Own.refl _ _,h _ 0 j l e⟩
theorem ZX {x j0:Int}{r:Rec}(t0:G.ty c=some r)(hr:(∃d q,r= .inner d q∧j0=3)∨(∃t s,r= .bT t s∧j0=4))(h: ∀G' z j,LeT t G G'→j+1=n→Safe t j (f z) G' Q):Safe t n (ad (c+j0) x >>= f) G Q:=by
 refine Safe.ask (q:=.ad (c+j0) x) (k:=f) λG' m j l i e=>?_
 have t1:=l.le.ty _ _ t0;have hj:0≤j0∧j0<r.size:=by
  rcases hr with⟨d,q,rfl,rfl⟩|⟨t,s,rfl,rfl⟩
  ·exact⟨by omega,by simp[Rec.size];omega⟩
  ·exact⟨by omega,by simp[Rec.size]⟩
 have u:=i.used t1 hj;simp only[eB,u,if_true];refine⟨G',i.free t1 hj rfl ?_,Own.refl _ _,h _ _ j l e⟩;rcases hr with⟨d,q,rfl,rfl⟩|⟨t,s,rfl,rfl⟩
 ·exact .inl ⟨d,q,rfl,.inl rfl⟩
 ·exact .inr ⟨t,s,rfl,rfl⟩
theorem K8 {a old x:Int}(h1: ∀G' m j,LeT t G G'→bs G' m→j+1=n→m.used a→m.at a=old→∃Oo,bs Oo (m.set a x)∧Own t G' Oo∧Safe t j (f 1) Oo Q)(h0: ∀G' m j,LeT t G G'→bs G' m→j+1=n→¬(m.used a∧m.at a=old)→Safe t j (f 0) G' Q):Safe t n (cs a old x >>= f) G Q:=by
 refine Safe.ask (q:=.cs a old x) (k:=f) λG' m j l i e=>?_
 simp only[eB];by_cases hc:m.used a∧m.at a=old
 ·simp only[hc,and_self,if_true];exact h1 G' m j l i e hc.1 hc.2
 ·simp only[hc,if_false];exact⟨G',i,Own.refl _ _,h0 G' m j l i e hc⟩
theorem bs.ZY {m:Mm}(h:bs G m){e old new:Int}{b:Nat}(t0:G.ty e=some (.ek s old new b))(hn:m.at (e+4)≠0): ∃y,(y=1∨y=2)∧G.pC e y:=by
 obtain⟨o,p,h1,h2,h3,h4,h5,h6,h7,h8,h9⟩:=h.ij _ _ t0;refine⟨m.at (e+4),?_,(h9 _).2 ⟨rfl,hn⟩⟩;rcases h8 with⟨a,_⟩|⟨a,_⟩|⟨a,_⟩
 ·exact absurd a hn
 ·exact .inl a
 ·exact .inr a
theorem Tz {e old new x:Int}{b:Nat}(t0:G.ty e=some (.ek s old new b))(hi:G.inst e)(hx:(x=1∧G.lS e)∨x=2)(h: ∀G' z j,LeT t G G'→j+1=n→(∃y,(y=1∨y=2)∧G'.pC e y)→Safe t j (f z) G' Q):Safe t n (cs (e+4) 0 x >>= f) G Q:=by
 refine K8 (λG' m j l i e' _ hz=>?_) λG' m j l i e' hc=>?_
 ·have t1:=l.le.ty _ _ t0;have g:=G'.AQ e x;refine⟨G'.settle e x,i.acr t1 hz (l.le.inst _ hi) (hx.imp_left λk=>⟨k.1,l.le.lS _ k.2⟩),Own.of g λ_ k=>k,h _ _ j (l.trans (.of g λ_ k=>k)) e' ⟨x,?_,.inr ⟨rfl,rfl⟩⟩⟩
  rcases hx with⟨k,_⟩|k
  ·exact .inl k
  ·exact .inr k
 ·have t1:=l.le.ty _ _ t0;have u:=i.used t1 (j0:=4) ⟨by omega,by simp[Rec.size]⟩
  exact h _ _ j l e' (i.ZY t1 λk=>hc ⟨u,k⟩)
theorem Iq {e old new x:Int}{b:Nat}(t0:G.ty e=some (.ek s old new b))(hx:(G.pC e 1∧x=new)∨(G.pC e 2∧x=old))(h: ∀G' z j,LeT t G G'→j+1=n→Safe t j (f z) G' Q):Safe t n (cs s (fI 5 e) x >>= f) G Q:=by
 refine K8 (λG' m j l i e' _ hz=>?_) λG' m j l i e' hc=>h _ _ j l e'
 exact⟨G',i.rel (l.le.ty _ _ t0) hz (hx.imp (λk=>⟨l.le.pC _ _ k.1,k.2⟩) λk=>⟨l.le.pC _ _ k.1,k.2⟩),Own.refl _ _,h _ _ j l e'⟩
theorem ZZ {e old new:Int}(t0:G.ty e=some (.ek s old new t))(hn: ¬G.inst e)(h: ∀G' z j,G.le G'→j+1=n→(z=1∧G'.inst e)∨z=0→Safe t j (f z) G' Q):Safe t n (cs s old (fI 5 e) >>= f) G Q:=by
 refine K8 (λG' m j l i e' _ hz=>?_) λG' m j l i e' hc=>h _ _ j l.le e' (.inr rfl)
 have t1:=l.le.ty _ _ t0;have g:=G'.gW e;refine⟨G'.install e,i.inst1 t1 hz λk=>hn (l.own e s old new t0 k),⟨g,λe2 s2 adw adx u hu k1 k2=>?_⟩,h _ _ j (l.le.trans g) e' (.inl ⟨rfl,.inr rfl⟩)⟩
 rcases k2 with k|rfl
 ·exact k
 ·rw[t1] at k1;cases k1;exact absurd rfl hu
theorem Z0 {x r:Int}{d:Nat}(t0:G.ty c=some (.bT r s))(tr:G.ty r=some (.inner d p))(h0:x≠0)(hx:zQ G r p x)(h: ∀G' z j,LeT t G G'→j+1=n→G'.nz (c+3)→Safe t j (f z) G' Q):Safe t n (cs (c+3) 0 x >>= f) G Q:=by
 refine K8 (λG' m j l i e' _ hz=>?_) λG' m j l i e' hc=>?_
 ·have t1:=l.le.ty _ _ t0;have g:=G'.Im (c+3);refine⟨G'.K7 (c+3),i.acq t1 h0 ?_,Own.of g λ_ k=>k,h _ _ j (l.trans (.of g λ_ k=>k)) e' (.inr rfl)⟩
  intro p' d' k;rw[l.le.ty _ _ tr] at k;cases k;exact hx.mono l.le
 ·have t1:=l.le.ty _ _ t0;have u:=i.used t1 (j0:=3) ⟨by omega,by simp[Rec.size]⟩
  refine h _ _ j l e' ?_;obtain⟨o,p,d,_,_,_,_,_,_,_,k⟩:=i.ij _ _ t1;rcases k with⟨a,_⟩|⟨_,a,_⟩
  ·exact absurd ⟨u,a⟩ hc
  ·exact a
theorem Z1 {x:Int}(so:aQ G s o p)(hx:da G p x)(h: ∀G' z j,LeT t G G'→j+1=n→G'.nz s→Safe t j (f z) G' Q):Safe t n (cs s 0 x >>= f) G Q:=by
 refine K8 (λG' m j l i e' _ hz=>?_) λG' m j l i e' hc=>?_
 ·have g:=G'.Im s;exact⟨G'.K7 s,i.part (so.mono l.le) hz (hx.mono l.le),Own.of g λ_ k=>k,h _ _ j (l.trans (.of g λ_ k=>k)) e' (.inr rfl)⟩
 ·have Ip:=so.mono l.le;refine h _ _ j l e' ?_;have u:m.used s:=Ip.in' i;rcases i.slot Ip with⟨a,_⟩|⟨a,_⟩
  ·exact absurd ⟨u,a⟩ hc
  ·exact a
theorem Z2 {x old:Int}(h: ∀G' z j,LeT t G G'→j+1=n→Safe t j (f z) G' Q):Safe t n (cs 0 old x >>= f) G Q:=
 K8 (λ_ _ _ _ _ _ u _=>by unfold Mm.used at u;omega) λG' m j l i e' hc=>h _ _ j l e'
theorem qE.mono {G':Ga}{a:Int}{ws:List Int}{r:Rec}(g:G.le G')(h:qE G a ws r)(b:Int):qE G' b ws r:=by
 cases r with
 |leaf=>exact h
 |empty=>exact h
 |inner d p=>
  obtain⟨h1,n,q,cs,h2,h3,h4,h5⟩:=h;exact⟨h1,n,q,cs,h2,h3,h4,λi hi=>(h5 i hi).imp_right (·.mono g)⟩
 |bT t s=>
  obtain⟨o,p,d,x,h1,h2,h3,h4,h5,h6⟩:=h;exact⟨o,p,d,x,h1.mono g,g.ty _ _ h2,full.mono g h3,h4,h5,h6⟩
 |ek s old new b=>
  obtain⟨o,p,h1,h2,h3,h4⟩:=h;exact⟨o,p,h1.mono g,h2.mono g,h3.mono g,h4⟩
structure Made (G:Ga) (a:Int) (r:Rec) (ws:List Int):Prop where
 pos:1≤a∧a≤65536
 ty:G.ty a=some r
 nin: ¬G.inst a
 nz: ∀d p i,r= .inner d p→i<d→ws.getD (4+d+i) 0≠0→G.nz (bV a d i)
theorem CA {ws:List Int}{r:Rec}(hw:qE G 0 ws r)(h0: ∀G' j,LeT t G G'→j+1=n→Safe t j (f 0) G' Q)(h1: ∀G' z j,LeT t G G'→j+1=n→Made G' z r ws→Safe t j (f z) G' Q):Safe t n (mk ws >>= f) G Q:=by
 refine Safe.ask (q:=.mk ws) (k:=f) λG' m j l i e=>?_
 simp only[eB];by_cases hc:ws=[]∨ws.length+m.cs.length>m.max
 ·simp only[hc,if_true];exact⟨G',i,Own.refl _ _,h0 G' j l e⟩
 ·simp only[hc,if_false];have Z3:=hw.mono l.le (m.cs.length+1);have i':=i.make Z3 (by omega)
  have g:G'.le (G'.make (m.cs.length+1) r ws):=Ga.nv i.Ea;refine⟨_,i',Own.of g λ_ k=>k,h1 _ _ j (l.trans (.of g λ_ k=>k)) e ⟨?_,by simp[Ga.make],?_,?_⟩⟩
  ·have:=i.top;have:=Z3.size
   have:1≤r.size:=by cases r<;>simp[Rec.size]
   omega
  ·intro k;obtain⟨s,old,new,b,t1⟩:=i.inst _ k;rw[i.Ea] at t1;cases t1
  ·rintro d p k rfl hk hz;exact .inr ⟨d,p,k,rfl,hk,rfl,hz⟩
theorem Z4 (h: ∀G' j,LeT t G G'→j+1=n→Safe t j (f 0) G' Q):Safe t n (mk [] >>= f) G Q:=by
 refine Safe.ask (q:=.mk []) (k:=f) λG' m j l i e=>?_
 simp only[eB,true_or,if_true];exact⟨G',i,Own.refl _ _,h G' j l e⟩
variable {G:Ga} {c s o w:Int} {p:List Nat} {α β:Type} {t n:Nat}
theorem aQ.ty (h:aQ G s o p): ∃d q,G.ty o=some (.inner d q):=by
 obtain⟨d,q,i,k,_⟩:=h;exact⟨d,q,k⟩
theorem FY {e old new:Int}{b:Nat}(t0:G.ty e=some (.ek s old new b))(hi:G.inst e):Safe t n (yI e) G λ_ _ _=>True:=by
 unfold yI;refine kH λG1 m1 j1 l1 i1 _=>?_
 have t1:=l1.le.ty _ _ t0;obtain⟨o,p,so,fo,fn,e0,_⟩:=i1.ij _ _ t1;rw[e0];obtain⟨d,q,to'⟩:=so.ty;refine Ty to' λG2 m2 j2 l2 i2 _ ho=>?_
 have t2:=l2.le.ty _ _ t1;have hi2:=l2.le.inst _ (l1.le.inst _ hi);refine Tz t2 hi2 ?_ λG3 z3 j3 l3 _ st=>?_
 ·by_cases hg:m2.at (o+2)=0
  ·exact .inl ⟨by simp[hg],ho hg e s old new b p (l1.le.inst _ hi) t1 so⟩
  ·exact .inr (by simp[hg])
 obtain⟨y,hy,sy⟩:=st;refine kH λG4 m4 j4 l4 i4 _=>?_
 have t4:=l4.le.ty _ _ (l3.le.ty _ _ t2);obtain⟨_,_,_,_,_,_,_,_,_,_,k9⟩:=i4.ij _ _ t4;have ey:=((k9 y).1 (l4.le.pC _ _ sy)).1;rw[ey];refine kH λG5 m5 j5 l5 i5 _=>?_
 have t5:=l5.le.ty _ _ t4;obtain⟨_,_,_,_,_,_,e1,_⟩:=i5.ij _ _ t5;rw[e1];have Z5:=l5.le.pC _ _ (l4.le.pC _ _ sy);rcases hy with rfl|rfl
 ·simp only[if_true];refine kH λG6 m6 j6 l6 i6 _=>?_
  have t6:=l6.le.ty _ _ t5;obtain⟨_,_,_,_,_,_,_,_,e3,_⟩:=i6.ij _ _ t6;rw[e3];exact Iq t6 (.inl ⟨l6.le.pC _ _ Z5,rfl⟩) λG7 z7 j7 _ _=>Safe.ret λ_ _ _ _ _=>trivial
 ·rw[if_neg (by decide)]
  refine kH λG6 m6 j6 l6 i6 _=>?_
  have t6:=l6.le.ty _ _ t5;obtain⟨_,_,_,_,_,_,_,e2,_⟩:=i6.ij _ _ t6;rw[e2];exact Iq t6 (.inr ⟨l6.le.pC _ _ Z5,rfl⟩) λG7 z7 j7 _ _=>Safe.ret λ_ _ _ _ _=>trivial
def TA (G0:Ga)(s o:Int)(p:List Nat):Nat→Int→Ga→Prop:=λ_ w G'=>(w=0∧¬G0.nz s)∨(da G' p w∧(G0.shut o→G'.dx s w))
theorem yO (G0:Ga): ∀(f:Nat) {G:Ga} {n:Nat} {w:Int},n≤f→G0.le G→aQ G0 s o p→
  (w=0∧¬G0.nz s∨(da G p w∧(G0.shut o→G.dx s w))∨(kd w=5∧G.inst (aw w)∧∃old new b,G.ty (aw w)=some (.ek s old new b)))→Safe t n (se s f w) G (TA G0 s o p)
 |0,_,n,_,hn,_,_,_=>by
  have:n=0:=by omega
  subst this;exact Safe.zero
 |f+1,G,n,w,hn,g0,so,hw=>by
  unfold se;cases n with
  |zero=>exact Safe.zero
  |succ n=>
   show Safe t (n+1) (if !false=true∧kd w=5 then _ else _) G _
   rcases hw with⟨rfl,h⟩|⟨h1,h2⟩|⟨h1,h2,old,new,b,h3⟩
   ·rw[if_neg (by rw[sq];omega)]
    exact Safe.ret λ_ _ _ _ _=>.inl ⟨rfl,h⟩
   ·rw[if_neg (λk=>h1.PJ k.2)]
    exact Safe.ret λG' m l _ _=>.inr ⟨h1.mono l.le,λk=>l.le.dx _ _ (h2 k)⟩
   ·rw[if_pos ⟨rfl,h1⟩];refine Safe.bind ((FY h3 h2).wk λj _ G1 hj g1 _=>?_)
    have TB:=(so.mono g0).mono g1;refine Tx TB λG2 m2 j2 l2 i2 ej hf=>?_
    refine yO G0 f (by omega) (g0.trans (g1.trans l2.le)) so ?_
    rcases i2.slot (TB.mono l2.le) with⟨a,b⟩|⟨a,b|⟨b1,b2,b3⟩⟩
    ·exact .inl ⟨a,λk=>b ((g0.trans (g1.trans l2.le)).nz _ k)⟩
    ·exact .inr (.inl ⟨b,λk=>hf (g1.shut _ (g0.shut _ k)) b⟩)
    ·exact .inr (.inr ⟨b1,b2,b3⟩)
theorem yP {f:Nat}(hn:n≤f+1)(so:aQ G s o p):Safe t n (kr f s) G λj w G'=>j<n∧TA G s o p j w G':=by
 unfold kr;refine Tx so λG2 m2 j2 l2 i2 ej hf=>?_
 refine(yO G f (by omega) l2.le so ?_).wk λj w G' hj _ h=>⟨by omega,h⟩
 rcases i2.slot (so.mono l2.le) with⟨a,b⟩|⟨a,b|⟨b1,b2,b3⟩⟩
 ·exact .inl ⟨a,λk=>b (l2.le.nz _ k)⟩
 ·exact .inr (.inl ⟨b,λk=>hf k b⟩)
 ·exact .inr (.inr ⟨b1,b2,b3⟩)
theorem ji {x:Int}(h: -9223372036854775808≤x∧x<9223372036854775808):wr x=x:=by unfold wr;omega
theorem qF {g old x:Int}(so:aQ G s o p)(hg:g=o+2)(fo:da G p old)(fx:da G p x):Safe t n (sg g s old x) G λ_ _ _=>True:=by
 subst hg;unfold sg;refine CA (r:=.ek s old x t) ⟨o,p,so,fo,fx,rfl⟩ (λG1 j1 _ _=>?_) λG1 a j1 l1 _ ma=>?_
 ·rw[if_pos (by omega)];exact Safe.ret λ_ _ _ _ _=>trivial
 obtain⟨pa,t1,ni,_⟩:=ma;rw[if_neg (by omega)]
 cases j1 with
 |zero=>exact Safe.zero
 |succ j1=>
  show Safe t (j1+1) _ G1 _
  refine ZZ t1 ni λG2 z j2 g2 _ hz=>?_
  rcases hz with⟨rfl,hi⟩|rfl
  ·rw[if_neg (by decide)]
   have t2:=g2.ty _ _ t1;have TC:=(so.mono l1.le).mono g2;obtain⟨d,q,to'⟩:=TC.ty;refine Ty to' λG3 m3 j3 l3 i3 _ ho=>?_
   have t3:=l3.le.ty _ _ t2;rw[ji (x:=a+4) (by omega)]
   refine Tz t3 (l3.le.inst _ hi) ?_ λG4 z4 j4 l4 _ st=>?_
   ·by_cases hg:m3.at (o+2)=0
    ·exact .inl ⟨by simp[hg],ho hg a s old x t p hi t2 TC⟩
    ·exact .inr (by simp[hg])
   obtain⟨y,hy,sy⟩:=st;refine kH λG5 m5 j5 l5 i5 _=>?_
   have t5:=l5.le.ty _ _ (l4.le.ty _ _ t3);obtain⟨_,_,_,_,_,_,_,_,_,_,k9⟩:=i5.ij _ _ t5;have ey:=((k9 y).1 (l5.le.pC _ _ sy)).1;rw[ey];have Z5:=l5.le.pC _ _ sy;rcases hy with rfl|rfl
   ·simp only[if_true];exact Iq t5 (.inl ⟨Z5,rfl⟩) λG7 z7 j7 _ _=>Safe.ret λ_ _ _ _ _=>trivial
   ·rw[if_neg (by decide)]
    exact Iq t5 (.inr ⟨Z5,rfl⟩) λG7 z7 j7 _ _=>Safe.ret λ_ _ _ _ _=>trivial
  ·rw[if_pos (by decide)]
   exact Safe.ret λ_ _ _ _ _=>trivial
def Reads:Tr α→Prop
 | .ret _=>True
 | .ask q k=>(∃a,q= .rd a)∧∀z,Reads (k z)
 | .off k=>∀b,Reads (k b)
 | .rc _ u=>Reads u
 | .ld u=>Reads u
theorem Reads.safe {u:Tr α}(h:Reads u):Safe t n u G λ_ _ _=>True:=by
 induction u generalizing G n with
 |ret a=>exact Safe.ret λ_ _ _ _ _=>trivial
 |ask q k ih=>
  obtain⟨⟨a,rfl⟩,hk⟩:=h;exact Safe.ask λG' m j l i _=>⟨G',i,Own.refl _ _,ih _ (hk _)⟩
 |off k ih=>cases n with
  |zero=>exact Safe.zero
  |succ n=>exact ih false (h false)
 |rc r u ih=>cases n with
  |zero=>exact Safe.zero
  |succ n=>exact ih h
 |ld u ih=>cases n with
  |zero=>exact Safe.zero
  |succ n=>exact ih h
theorem Reads.bind {u:Tr α}{f:α→Tr β}(h:Reads u)(k: ∀a,Reads (f a)):Reads (u >>= f):=by
 induction u with
 |ret a=>exact k a
 |ask q g ih=>exact⟨h.1,λz=>ih z (h.2 z)⟩
 |off g ih=>exact λb=>ih b (h b)
 |rc r u ih=>exact ih h
 |ld u ih=>exact ih h
theorem Reads.rd (a:Int):Reads (Y.rd a):=⟨⟨a,rfl⟩,λ_=>trivial⟩
theorem Reads.pure (a:α):Reads (Pure.pure a:Tr α):=trivial
theorem Reads.off:Reads gT:=λ_=>trivial
theorem Reads.ite {P:Prop}[Decidable P]{u v:Tr α}(h:Reads u)(k:Reads v):Reads (if P then u else v):=by
 split
 ·exact h
 ·exact k
theorem Eb (s:Int):Reads (sd s):=by
 unfold sd;exact(Reads.rd _).bind λw=>.ite (.pure _) ((Reads.rd _).bind λo=>.ite (.rd _) (.rd _))
mutual
theorem mg: ∀(f:Nat) (a fr to:Int) (out:PL),Reads (gJ f a fr to out)
 |0,_,_,_,_=>trivial
 |f+1,a,fr,to,out=>by
  unfold gJ;exact(Reads.rd _).bind λd=>iz f _ _ _ _ _ _ _
theorem iz: ∀(f:Nat) (a d fr to i kX:Int) (out:PL),Reads (cW f a d fr to i kX out)
 |0,_,_,_,_,_,_,_=>trivial
 |f+1,a,d,fr,to,i,kX,out=>by
  unfold cW;refine .ite (.pure _) (.ite (.pure _) (Reads.off.bind λb=>.ite (.pure _) ((Eb _).bind λw=>.ite (.ite ((Reads.rd _).bind λk=>(Reads.rd _).bind λv=>iz f _ _ _ _ _ _ _) (iz f _ _ _ _ _ _ _)) (.ite ?_ (iz f _ _ _ _ _ _ _)))))
  refine Reads.bind (.ite ((Reads.rd _).bind λt=>.pure _) (.pure _)) λx=>(Reads.rd _).bind λz=>?_
  exact Reads.bind (.ite (mg f _ _ _ _) (.pure _)) λo=>iz f _ _ _ _ _ _ _
end
end Go.Proofs.YtgfgglponbmgmaaGreatA.Y
end
