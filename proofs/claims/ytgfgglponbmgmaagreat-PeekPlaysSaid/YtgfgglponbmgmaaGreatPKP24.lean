/- Texts of the proof of peekPlays_holds, put together by a small program of ours (names shortened, spaces taken out). No condition beyond the given statement. -/
import Derived.Test.YtgfgglponbmgmaaGreatPKP23
import Derived.Test.YtgfgglponbmgmaaGreatPKP11
import Derived.Test.YtgfgglponbmgmaaGreatPKP12
import Derived.Test.YtgfgglponbmgmaaGreatPKP10
import Derived.Test.YtgfgglponbmgmaaGreatPKP16
import Derived.Test.YtgfgglponbmgmaaGreatPKP17
import Derived.Test.YtgfgglponbmgmaaGreatPKP21
set_option linter.unusedVariables false
set_option linter.unusedSimpArgs false
set_option linter.unnecessarySimpa false
noncomputable section
section
namespace Go.Proofs.YtgfgglponbmgmaaGreatA.Y
variable {G:Ga} {c s o w:Int} {p:List Nat} {α β:Type} {t n:Nat}
theorem pE {part whole N:Int}(hp:0≤part∧part≤whole)(hw:0<whole): ∀(b:Nat) (q r:Int),0≤r∧r<whole→q*whole+r=part*(N/2^b)→cq part whole N b q r*whole≤part*N
 |0,q,r,hr,h=>by
  unfold cq;simp at h;omega
 |b+1,q,r,hr,h=>by
  unfold cq;have e2:N/2^b=2*(N/2^(b+1))+N/2^b%2:=by
   have:N/2^(b+1)=N/2^b/2:=by
    rw[Int.pow_succ,Int.ediv_ediv_of_nonneg (Int.le_of_lt (Int.pow_pos (by decide)))]
   rw[this];omega
  have qx: ∀(q1 r1:Int),(q1=if r≥whole-r then 2*q+1 else 2*q)→(r1=if r≥whole-r then r-(whole-r) else r+r)→0≤r1∧r1<whole∧q1*whole+r1=2*(part*(N/2^(b+1))):=by
   rintro q1 r1 rfl rfl;rw[←h];split
   ·refine⟨by omega,by omega,?_⟩
    rw[Int.add_mul,Int.mul_assoc];omega
   ·refine⟨by omega,by omega,?_⟩
    rw[Int.mul_assoc];omega
  have key: ∀q1 r1:Int,0≤r1∧r1<whole∧q1*whole+r1=2*(part*(N/2^(b+1)))→
    (if N/2^b%2=0 then cq part whole N b q1 r1 else if part≥whole-r1 then cq part whole N b (q1+1) (r1-(whole-part)) else cq part whole N b q1 (r1+part))*whole≤part*N:=by
   rintro q1 r1 ⟨a1,a2,a3⟩;split
   ·next hb=>
    refine pE hp hw b _ _ ⟨a1,a2⟩ ?_;rw[a3,e2,hb,Int.add_zero, ←Int.mul_assoc, ←Int.mul_assoc,Int.mul_comm 2 part]
   ·next hb=>
    have Vy:N/2^b%2=1:=by omega
    have e3:part*(N/2^b)=2*(part*(N/2^(b+1)))+part:=by
     rw[e2,Vy,Int.mul_add,Int.mul_one, ←Int.mul_assoc, ←Int.mul_assoc,Int.mul_comm 2 part]
    split
    ·refine pE hp hw b _ _ ⟨by omega,by omega⟩ ?_
     rw[e3, ←a3,Int.add_mul,Int.one_mul];omega
    ·refine pE hp hw b _ _ ⟨by omega,by omega⟩ ?_
     rw[e3, ←a3];omega
  exact key _ _ (qx _ _ rfl rfl)
theorem Bk {part whole N:Int}(hp:0≤part)(hw:0≤whole)(hN:1≤N):kl part whole N≤N:=by
 unfold kl;split
 ·omega
 ·next h=>
  have hw':0<whole:=by omega
  have key: ∀q:Int,0≤q∧q≤whole→cq q whole N 17 0 0≤N:=by
   intro q hq;have:=pE (part:=q) (whole:=whole) (N:=N) hq hw' 17 0 0 ⟨by omega,by omega⟩ (by
    have:N/2^17=0:=Int.ediv_eq_zero_of_lt (by omega) (by omega)
    rw[this];simp)
   have h2:q*N≤whole*N:=Int.mul_le_mul_of_nonneg_right hq.2 (by omega)
   have h3:cq q whole N 17 0 0*whole≤N*whole:=by rw[Int.mul_comm N];omega
   exact Int.le_of_mul_le_mul_right h3 hw'
  exact key _ (by split<;>omega)
theorem pF {part whole N:Int}: ∀(b:Nat) (q r:Int),0≤q→0≤cq part whole N b q r
 |0,q,r,h=>h
 |b+1,q,r,h=>by
  have key: ∀q1 r1:Int,0≤q1→0≤(if N/2^b%2=0 then cq part whole N b q1 r1 else if part≥whole-r1 then cq part whole N b (q1+1) (r1-(whole-part)) else cq part whole N b q1 (r1+part)):=by
   intro q1 r1 h1;split
   ·exact pF b _ _ h1
   ·split
    ·exact pF b _ _ (by omega)
    ·exact pF b _ _ h1
  unfold cq;exact key _ _ (by split<;>omega)
theorem LQ {part whole N:Int}:0≤kl part whole N:=by
 unfold kl;split
 ·omega
 ·exact pF _ _ _ (by omega)
theorem EF {first last k m:Int}(hm:2≤m):iy first last k m≤m:=by
 unfold iy;split
 ·omega
 ·have g: ∀a b,0≤u9 a b:=by intro a b;unfold u9;split<;>omega
  have:=Bk (g first k) (g first last) (N:=m-1) (by omega)
  omega
theorem zd {a k hi:Int}: ∀(f:Nat) (i:Int) {G:Ga} {n:Nat},i≤hi→1≤hi→Safe t n (mM a k f i) G λ_ z _=>1≤z∧z≤hi
 |0,i,_,_,h,h1=>Safe.ret λ_ _ _ _ _=>⟨by omega,by omega⟩
 |f+1,i,G,n,h,h1=>by
  unfold mM;split
  ·cases n with
   |zero=>exact Safe.zero
   |succ n=>
    show Safe t (n+1) (rd (lG a i) >>= _) G _
    refine kI λG1 m1 j1 _ _ _=>?_
    split
    ·exact Safe.ret λ_ _ _ _ _=>⟨by omega,by omega⟩
    ·exact zd f (i-1) (by omega) h1
  ·exact Safe.ret λ_ _ _ _ _=>⟨by omega,by omega⟩
theorem EG {a k m:Int}(hm:2≤m): ∀(f:Nat) (i:Int) {G:Ga} {n:Nat},2≤i→Safe t n (LK a k m f i) G λ_ z _=>1≤z∧z≤m
 |0,i,_,_,h=>Safe.ret λ_ _ _ _ _=>⟨by omega,by omega⟩
 |f+1,i,G,n,h=>by
  unfold LK;split
  ·cases n with
   |zero=>exact Safe.zero
   |succ n=>
    show Safe t (n+1) (rd (lG a i) >>= _) G _
    refine kI λG1 m1 j1 _ _ _=>?_
    split
    ·exact Safe.ret λ_ _ _ _ _=>⟨by omega,by omega⟩
    ·exact EG hm f (i+1) (by omega)
  ·exact Safe.ret λ_ _ _ _ _=>⟨by omega,by omega⟩
theorem bs.X6 {m:Mm}(h:bs G m){d:Nat}(t0:G.ty c=some (.inner d p)):m.at c=d∧1≤d∧d≤16384∧1≤c∧c≤16384:=by
 have h1:=(h.iz _ _ t0).2.1;have h2:=(h.iz _ _ t0).1;have h3:=h.room _ _ t0;have h4:=h.top;simp[Rec.size] at h3;exact⟨h1,h2,by omega,by omega,by omega⟩
theorem EH {f:Nat}{d:Nat}{k:Int}(t0:G.ty c=some (.inner d p)):Safe t n (lf f c k) G λ_ dc _=>dc.1=d∧0≤dc.2∧dc.2<d:=by
 unfold lf;refine kI λG1 m1 j1 l1 i1 _=>?_
 obtain⟨e1,d1,d2,_⟩:=i1.X6 (l1.le.ty _ _ t0);rw[e1,jq (by omega)]
 simp only;split
 ·exact Safe.ret λ_ _ _ _ _=>⟨rfl,by simp,by simp;omega⟩
 refine kI λG2 m2 j2 l2 i2 _=>?_
 split
 ·exact Safe.ret λ_ _ _ _ _=>⟨rfl,by simp,by simp;omega⟩
 split
 ·exact Safe.ret λ_ _ _ _ _=>⟨rfl,by simp,by simp;omega⟩
 refine kI λG3 m3 j3 l3 i3 _=>?_
 split
 ·exact Safe.ret λ_ _ _ _ _=>⟨rfl,by simp;omega,by simp;omega⟩
 have gl:=EF (first:=m2.at (lG c 1)) (last:=m3.at (lG c (d-1))) (k:=k) (m:=d-1) (by omega)
 generalize hj:iy (m2.at (lG c 1)) (m3.at (lG c (d-1))) k (d-1)=j at gl
 cases j3 with
 |zero=>exact Safe.zero
 |succ j3=>
  show Safe t (j3+1) (if false=true∨j<1 then _ else _) G3 _
  split
  ·exact Safe.ret λ_ _ _ _ _=>⟨rfl,by simp,by simp;omega⟩
  next fG=>
  have tail: ∀(b:Bool) {G:Ga} {n:Nat},(b=true→j>1)→Safe t n (if b=true then mM c k f (j-1) >>= λi=>Tr.ret ((d:Int),i) else LK c k (d-1) f (j+1) >>= λi=>Tr.ret ((d:Int),i)) G λ_ dc _=>dc.1=d∧0≤dc.2∧dc.2<d:=by
   intro b G n hb;split
   ·next M7=>
    refine Safe.bind ((zd f (j-1) (hi:=j-1) (by omega) (by have:=hb M7;omega)).wk λj _ G1 _ _ h=>?_)
    exact Safe.ret λ_ _ _ _ _=>⟨rfl,by simp;omega,by simp;omega⟩
   ·refine Safe.bind ((EG (by omega) f (j+1) (by omega)).wk λj _ G1 _ _ h=>?_)
    exact Safe.ret λ_ _ _ _ _=>⟨rfl,by simp;omega,by simp;omega⟩
  by_cases h1:j>1
  ·simp only[h1,if_true];refine kI λG4 m4 j4 l4 i4 _=>?_
   exact tail (decide (m4.at (lG c j)>k)) λ_=>h1
  ·simp only[h1,if_false];exact tail false λh=>by cases h
theorem ke {d:Nat}{i:Int}(hc:1≤c∧c≤16384)(hd:d≤16384)(hi:0≤i∧i<d):di c d i=bW c d i.toNat:=by
 unfold di Ew bW;rw[if_neg (by simp;omega)];omega
theorem EI {f:Nat}{d:Nat}{k:Int}(t0:G.ty c=some (.inner d p)):Safe t n (nB f c k) G λ_ s G'=>∃q,aQ G' s c q:=by
 unfold nB;refine Safe.bind ((EH t0).wk λj dc G1 _ g1 h=>?_)
 refine Safe.ret λG2 m2 l2 i2 _=>?_
 have t2:=l2.le.ty _ _ (g1.ty _ _ t0);obtain⟨e1,d1,d2,c1,c2⟩:=i2.X6 t2;rw[h.1,ke ⟨c1,c2⟩ d2 h.2];exact⟨_,d,p,dc.2.toNat,t2,by omega,rfl,rfl⟩
theorem aQ.mk' {d i:Nat}(t0:G.ty c=some (.inner d p))(hi:i<d):aQ G (bW c d i) c (p++[i]):=⟨d,p,i,t0,hi,rfl,rfl⟩
def aaR (t f:Nat):Prop:=
 (∀{G:Ga} {c:Int} {p:List Nat} {d n:Nat},n≤f→G.ty c=some (.inner d p)→full G c d→Safe t n (j9 f c) G λ_ z G'=>∃k:Nat,z=k∧sB G' c k)∧
 (∀{G:Ga} {c:Int} {p:List Nat} {d n i all:Nat},n≤f→G.ty c=some (.inner d p)→full G c d→G.shut c→i≤d→gr G c d i all→Safe t n (iF f c d i all) G λ_ z G'=>∃k:Nat,z=k∧gr G' c d d k)
theorem Bl: ∀f,aaR t f
 |0=>⟨λ{_ _ _ _ n} hn _ _=>by
   have:n=0:=by omega
   subst this;exact Safe.zero,λ{_ _ _ _ n _ _} hn _ _ _ _ _=>by
   have:n=0:=by omega
   subst this;exact Safe.zero⟩
 |f+1=>by
  obtain⟨ihT,ihL⟩:=Bl f;refine⟨?_,?_⟩
  ·intro G c p d n hn t0 hf;unfold j9;refine kI λG1 m1 j1 l1 i1 e1=>?_
   have t1:=l1.le.ty _ _ t0;obtain⟨_,_,_,h4,_⟩:=i1.iz _ _ t1;split
   ·next hz=>
    rcases h4 with h4|⟨k,h4,ck⟩
    ·exact absurd h4 hz
    ·have:=ck.le i1
     refine Safe.ret λG2 m2 l2 i2 _=>⟨k,?_,ck.mono l2.le⟩
     rw[h4,jq (by omega)];omega
   refine aaH t1 λG2 z2 j2 l2 e2 sh2=>?_
   refine kI λG3 m3 j3 l3 i3 e3=>?_
   have t3:=l3.le.ty _ _ (l2.le.ty _ _ t1);rw[(i3.X6 t3).1];have f3:=full.mono l3.le (full.mono l2.le (full.mono l1.le hf));refine Safe.bind ((ihL (i:=0) (all:=0) (by omega) t3 f3 (l3.le.shut _ sh2) (by omega) .zero).wk λj z G4 _ g4 h=>?_)
   obtain⟨k,rfl,ck⟩:=h;have t4:=g4.ty _ _ t3;have sh4:=g4.shut _ (l3.le.shut _ sh2);have c4:sB G4 c k:=.mk t4 sh4 ck;refine Safe.real λG5 m5 l5 i5=>?_
   have:=(c4.mono l5.le).le i5
   rw[jq (by omega)]
   refine aaI (l5.le.ty _ _ t4) (c4.mono l5.le) λG6 z6 j6 l6 _=>?_
   exact Safe.ret λG7 m7 l7 _ _=>⟨k,rfl,((c4.mono l5.le).mono l6.le).mono l7.le⟩
  ·intro G c p d n i all hn t0 hf hs hi hc;unfold iF;split
   ·next h=>
    have:i=d:=by omega
    subst this;exact Safe.ret λG2 m2 l2 _ _=>⟨all,rfl,hc.mono l2.le⟩
   ·next h=>
    cases n with
    |zero=>exact Safe.zero
    |succ n=>
     show Safe t (n+1) (kA f (di c d i) >>= _) G _
     refine Safe.real λG0 m0 l0 i0=>?_
     obtain⟨_,d1,d2,c1,c2⟩:=i0.X6 (l0.le.ty _ _ t0);rw[ke ⟨c1,c2⟩ d2 (i:=(i:Int)) ⟨by omega,by omega⟩,Int.toNat_natCast]
     have tt:=l0.le.ty _ _ t0;have so:aQ G0 (bW c d i) c (p++[i]):=aQ.mk' tt (by omega)
     have ML:G0.nz (bW c d i):=l0.le.nz _ (hf i (by omega))
     refine Safe.bind ((y9 (by omega) so).wk λj w G1 hj g1 h=>?_)
     obtain⟨hjn,h⟩:=h;rcases h with⟨_,h⟩|⟨fw,kU⟩
     ·exact absurd ML h
     have fz:=kU (l0.le.shut _ hs);have t1:=g1.ty _ _ tt;have f1:=full.mono g1 (full.mono l0.le hf);have s1:=g1.shut _ (l0.le.shut _ hs);have UF:=(hc.mono l0.le).mono g1;have e1:((i:Int)+1)=((i+1:Nat):Int):=by omega
     have add: ∀{G2:Ga} {z k j:Nat},G1.le G2→z=all+k→gr G2 c d (i+1) z→j≤f→Safe t j (iF f c d ((i:Int)+1) (wr ((all:Int)+k))) G2 λ_ z G'=>∃k:Nat,z=k∧gr G' c d d k:=by
      intro G2 z k j g2 ez cz hj;refine Safe.real λG3 m3 l3 i3=>?_
      have t3:=l3.le.ty _ _ (g2.ty _ _ t1);have:=(cz.mono l3.le).le i3 t3 (by omega)
      rw[jq (by omega),e1]
      have e2:(all:Int)+k=(z:Int):=by omega
      rw[e2];exact ihL hj t3 (full.mono l3.le (full.mono g2 f1)) (l3.le.shut _ (g2.shut _ s1)) (by omega) (cz.mono l3.le)
     rcases fw.2 with k|k|⟨k,d',t',f'⟩|⟨k,c',s',o',d',tr,IZ,t',f'⟩
     ·rw[if_neg (by omega),if_neg (by omega),if_neg (by omega),e1]
      exact ihL (by omega) t1 f1 s1 (by omega) (.empty UF fz k)
     ·rw[if_pos k];exact add (Ga.le.refl _) rfl (.leaf UF fz k) (by omega)
     ·rw[if_neg (by omega),if_pos k]
      refine Safe.bind ((ihT (by omega) t' f').wk λj2 z G2 fM g2 h=>?_)
      obtain⟨kk,rfl,ck⟩:=h;exact add g2 rfl (.inner (UF.mono g2) (g2.dy _ _ fz) k ck) (by omega)
     ·rw[if_neg (by omega),if_neg (by omega),if_pos k]
      refine kI λG2 m2 j2 l2 i2 e2=>?_
      have tr2:=l2.le.ty _ _ tr;obtain⟨_,_,_,_,_,_,_,aw2,_⟩:=i2.iz _ _ tr2;rw[aw2];refine Safe.bind ((ihT (by omega) (l2.le.ty _ _ t') (full.mono l2.le f')).wk λj3 z G3 gF g3 h=>?_)
      obtain⟨kk,rfl,ck⟩:=h;exact add (l2.le.trans g3) rfl (.bT ((UF.mono l2.le).mono g3) (g3.dy _ _ (l2.le.dy _ _ fz)) k (g3.ty _ _ tr2) ck) (by omega)
theorem Gx {f d:Nat}(hn:n≤f)(t0:G.ty c=some (.inner d p))(hf:full G c d):Safe t n (j9 f c) G λ_ z G'=>∃k:Nat,z=k∧sB G' c k:=(Bl f).1 hn t0 hf
theorem tR {a:Int}{q cs:List Int}(h:cs.length=q.length+1):cR a q cs=[(cs.length:Int),a,0,0,0]++q++cs:=by
 unfold cR;rw[if_neg (by omega)]
theorem Bm {a:Int}{q cs:List Int}(h:cs.length=q.length+1){i:Nat}(hi:i<cs.length):(cR a q cs).getD (4+cs.length+i) 0=cs.getD i 0:=by
 rw[tR h];simp only[List.getD_eq_getElem?_getD];rw[List.getElem?_append_right (by simp;omega)]
 congr 2;simp;omega
theorem Made.fit {a x:Int}{q cs:List Int}(h:cs.length=q.length+1)(k:Made G a (.inner cs.length p) (cR x q cs))(hc: ∀i,i<cs.length→cs.getD i 0≠0):db G p (fO 3 a):=by
 refine⟨n5.fO (by omega) k.pos k.ty,.inr (.inr (.inl ⟨iA (by omega) k.pos,cs.length,?_,?_⟩))⟩
 ·rw[iV (by omega) k.pos];exact k.ty
 ·rw[iV (by omega) k.pos]
  intro i hi;exact k.nz cs.length p i rfl hi (by rw[Bm h hi];exact hc i hi)
def aaS (t f:Nat):Prop:=
 (∀{G:Ga} {n:Nat} (l:PL) (p:List Nat),Safe t n (iG f l) G λ_ x G'=>x.2=true→db G' p x.1)∧
 (∀{G:Ga} {n:Nat} (l:PL) (p:List Nat) (r i:Nat) (q cs:List Int),cs.length=i→(i=0∧q=[]∨q.length+1=i)→(∀j,j<i→db G (p++[j]) (cs.getD j 0))→
  Safe t n (lk f l r i q cs) G λ_ x G'=>x.2=true→db G' p x.1)
theorem LR: ∀f,aaS t f:=by
 intro f;have hL: ∀f,(∀{G:Ga} {n:Nat} (l:PL) (p:List Nat),Safe t n (iG f l) G λ_ x G'=>x.2=true→db G' p x.1)→
   ∀{G:Ga} {n:Nat} (l:PL) (p:List Nat) (r i:Nat) (q cs:List Int),cs.length=i→(i=0∧q=[]∨q.length+1=i)→(∀j,j<i→db G (p++[j]) (cs.getD j 0))→
    Safe t n (lk f l r i q cs) G λ_ x G'=>x.2=true→db G' p x.1:=by
  intro f hT G n l p r;induction r generalizing G n with
  |zero=>
   intro i q cs hc hq hf;unfold lk;rcases hq with⟨h0,hq⟩|hq
   ·have:cs=[]:=List.length_eq_zero_iff.1 (by omega)
    subst this;rw[show cR (l.length:Int) q []=[] by unfold cR;rw[if_pos (by simp)]]
    refine aaQ λG1 j1 _ _=>?_
    exact Safe.ret λ_ _ _ _ _ h=>by simp at h
   ·refine CW (r:=.inner cs.length p) ⟨by omega,l.length,q,cs,rfl,rfl,by omega,λi hi=>.inr (hf i (by omega))⟩ (λG1 j1 _ _=>Safe.ret λ_ _ _ _ _ h=>by simp at h) λG1 z j1 l1 _ ma=>?_
    exact Safe.ret λG2 m2 l2 _ _ _=>(ma.fit (by omega) λi hi=>(hf i (by omega)).Ux).mono l2.le
  |succ r ih=>
   intro i q cs hc hq hf;unfold lk;refine Safe.bind ((hT _ (p++[i])).wk λj x G1 _ g1 hx=>?_)
   cases hb:x.2 with
   |false=>exact Safe.ret λ_ _ _ _ _ h=>by simp at h
   |true=>
    rw[if_neg (by decide)]
    refine ih (i+1) _ _ (by simp[hc]) ?_ ?_
    ·rcases hq with⟨rfl,rfl⟩|hq
     ·exact .inr rfl
     ·refine .inr ?_;rw[if_pos (by omega)];simp;omega
    ·intro k hk;by_cases e:k=i
     ·subst e;simp only[List.getD_eq_getElem?_getD];rw[List.getElem?_append_right (by omega)]
      simp[hc];exact hx hb
     ·simp only[List.getD_eq_getElem?_getD];rw[List.getElem?_append_left (by omega)]
      have:=(hf k (by omega)).mono g1
      simpa only[List.getD_eq_getElem?_getD] using this
 have hT: ∀f,∀{G:Ga} {n:Nat} (l:PL) (p:List Nat),Safe t n (iG f l) G λ_ x G'=>x.2=true→db G' p x.1:=by
  intro f;induction f with
  |zero=>
   intro G n l p;unfold iG;exact Safe.ret λ_ _ _ _ _ h=>by simp at h
  |succ f ih=>
   intro G n l p
   match l with
   | []=>
    unfold iG;refine CW (r:=.empty) rfl (λG1 j1 _ _=>Safe.ret λ_ _ _ _ _ h=>by simp at h) λG1 z j1 l1 _ ma=>?_
    exact Safe.ret λ_ _ g _ _ _=>⟨(n5.fO (by omega) ma.pos ma.ty).mono g.le,.inl (iA (by omega) ma.pos)⟩
   | [kv]=>
    unfold iG;refine CW (r:=.leaf) rfl (λG1 j1 _ _=>Safe.ret λ_ _ _ _ _ h=>by simp at h) λG1 z j1 l1 _ ma=>?_
    exact Safe.ret λ_ _ g _ _ _=>⟨(n5.fO (by omega) ma.pos ma.ty).mono g.le,.inr (.inl (iA (by omega) ma.pos))⟩
   |a::b::l=>
    unfold iG;exact hL f ih _ p _ 0 [] [] rfl (.inl ⟨rfl,rfl⟩) λj hj=>by omega
 exact⟨hT f,hL f (hT f)⟩
theorem ze {f:Nat}(l:PL)(p:List Nat):Safe t n (iG f l) G λ_ x G'=>x.2=true→db G' p x.1:=(LR f).1 l p
end Go.Proofs.YtgfgglponbmgmaaGreatA.Y
end
section
namespace Go.Proofs.YtgfgglponbmgmaaGreat.Fun
open Go Go.RowKit Go.Proofs.YtgfgglponbmgmaaGreatA.Am
set_option maxRecDepth 10000
section
open Go.Proofs.YtgfgglponbmgmaaGreatA
variable {G:ae} {H H':aa} {o o':aj} {p:Nat} {K:aa→aj→Prop} {st MJ s1:Y.St} {α β:Type}
theorem SD (x:Int):IntKind.u64.wrap x=x%18446744073709551616:=by simp[IntKind.wrap,IntKind.bits,IntKind.signed]
theorem Gy {x:Int}(h:0≤x∧x<18446744073709551616):IntKind.u64.wrap x=x:=by rw[SD];omega
theorem adi {x:Int}(h0:0≤x)(h1:x<2^63):Go.bits .and .i64 x 1=x%2:=
 bits_mask .i64 63 (by decide) (λn _ h=>by rw[IntKind.wrap_i64];omega) 1 (by decide) x h0 h1
theorem adj (t:TypeId)(a b:Int):ai Tryz.prog .eql t (uv a) (uv b)=some (.bool (decide (a=b))):=by
 show some (Value.bool (a==b))=_
 congr 2
theorem aaT (t:TypeId)(a b:Int):ai Tryz.prog .geq t (uv a) (uv b)=some (.bool (decide (a≥b))):=rfl
theorem UG (a b:Int):aF (run G) 162 [cv a,cv b] H (Is H (uv (Y.u9 a b))):=by
 refine Ev.up (t:=λn=>Ox (run G n) n (cv a) (cv b) H) ?_ λn=>Ir ..
 simp -implicitDefEqProofs only[Ox,sS,Nat.reduceAdd,Sw,va];refine Ev.lss (λh1=>?_) (λh1=>?_)<;>try simp -implicitDefEqProofs only[sS,Nat.reduceAdd,Sw,va]
 ·exact Ev.ret ⟨by simp[Y.u9,h1],rfl⟩
 ·refine Ev.ret ⟨?_,rfl⟩;refine congrArg uv ?_;rw[SD,SD,SD];unfold Y.u9;rw[if_neg (by omega)];omega
theorem CX (a b:Int):0≤Y.u9 a b∧Y.u9 a b<18446744073709551616:=by unfold Y.u9;split<;>omega
theorem SE {a b:Int}(c:Int)(ha:0≤a∧a<18446744073709551616)(hb:0≤b∧b<18446744073709551616):aF (run G) 161 [uv a,uv b,cv c] H (Is H (cv (Y.kl a b c))):=by
 refine Ev.up (t:=λn=>N5 (run G n) n (uv a) (uv b) (cv c) H) ?_ λn=>HS ..
 simp -implicitDefEqProofs only[N5,sS,Nat.reduceAdd,adj];by_cases h0:b=0
 ·simp -implicitDefEqProofs only[h0,decide_true,sS,Nat.reduceAdd];exact Ev.ret ⟨by simp[Y.kl],rfl⟩
 simp -implicitDefEqProofs only[h0,decide_false,sS,Nat.reduceAdd];refine Ev.lss (λh1=>?_) (λh1=>?_)<;>try simp -implicitDefEqProofs only[sS,Nat.reduceAdd]
 ·exact Ev.ret ⟨by simp[Y.kl,h1],rfl⟩
 refine Ev.gtr (λh2=>?_) (λh2=>?_)<;>try simp -implicitDefEqProofs only[sS,Nat.reduceAdd,aaC]
 ·exact Ev.ret ⟨by simp[Y.kl,h2],rfl⟩
 have hS:Y.kl a b c=Y.cq (if b<a then b else a) b c 17 0 0:=by
  unfold Y.kl;rw[if_neg (by omega)]
  congr 1;split<;>split<;>omega
 have hr:0≤(if b<a then b else a)∧(if b<a then b else a)≤b:=by split<;>omega
 rw[hS];generalize (if b<a then b else a)=r0 at hr
 refine Ev.loop (k:=17) (λk vs Hx=>∃(q r:Int) (d24 d33 d49 d54:Value),Hx=H∧k≤17∧0≤r∧r<b∧0≤q∧q+2≤2*2^(17-k)∧Y.cq r0 b c k q r=Y.cq r0 b c 17 0 0∧vs=[uv r0,uv b,cv c,cv 0,.bool false,cv ((k:Int)-1),d24,cv q,uv r,d33,d49,d54])
  (λr=>r.1= .exit 0∧r.2.2=H∧∃(d8 d9 d24 d33 d49 d54:Value),r.2.1=[uv r0,uv b,cv c,cv 0,.bool false,d9,d24,cv (Y.cq r0 b c 17 0 0),d8,d33,d49,d54]) ⟨0,0,_,_,_,_,rfl,by omega,by omega,by omega,by omega,by decide,rfl,rfl⟩ ?_ ?_
 ·rintro k vs Hx ⟨q,r,d24,d33,d49,d54,rfl,hk,r0',r1',q0,q1,hE,rfl⟩;simp -implicitDefEqProofs only[A5,r7,sS,Nat.reduceAdd];refine Ev.geq (λhq=>?_) (λhq=>?_)<;>try simp -implicitDefEqProofs only[sS,Nat.reduceAdd,va]
  ·obtain⟨j,rfl⟩: ∃j,k=j+1:=⟨k-1,by omega⟩
   have eb:((j+1:Nat):Int)-1=(j:Int):=by omega
   have hw:IntKind.i64.wrap ((j:Int)-1)=(j:Int)-1:=fZ (by omega)
   have qb:q+2≤262144:=by
    have:(2:Int)^(17-(j+1))≤65536:=by
     have h:2^(17-(j+1))≤2^16:=Nat.pow_le_pow_right (by decide) (by omega)
     have e:((2^(17-(j+1)):Nat):Int)=2^(17-(j+1)):=Int.natCast_pow 2 _;have h2:(2:Nat)^16=65536:=by decide
     omega
    omega
   have qn: ∀q',q'≤2*q+2→q'+2≤2*2^(17-j):=by
    intro q' h;have:(2:Int)^(17-j)=2^(17-(j+1))*2:=by
     rw[←Int.pow_succ];congr 1;omega
    omega
   have iQ: ∀(q r:Int) (d24 d33 d49 d54:Value),0≤r→r<b→0≤q→q+2≤2*2^(17-j)→Y.cq r0 b c j q r=Y.cq r0 b c 17 0 0→Ev (λn=>px (run G n) n [uv r0,uv b,cv c,cv 0,.bool false,cv ((j+1:Nat)-1),d24,cv q,uv r,d33,d49,d54] Hx) λr=>(r.1= .normal∧∃k',k'<j+1∧∃(q r':Int) (d24 d33 d49 d54:Value),r.2.2=Hx∧k'≤17∧0≤r'∧r'<b∧0≤q∧q+2≤2*2^(17-k')∧Y.cq r0 b c k' q r'=Y.cq r0 b c 17 0 0∧r.2.1=[uv r0,uv b,cv c,cv 0,.bool false,cv ((k':Int)-1),d24,cv q,uv r',d33,d49,d54])∨(r.1≠ .normal∧(r.1= .exit 0∧r.2.2=Hx∧∃(d8 d9 d24 d33 d49 d54:Value),r.2.1=[uv r0,uv b,cv c,cv 0,.bool false,d9,d24,cv (Y.cq r0 b c 17 0 0),d8,d33,d49,d54])):=by
    intro q r d24 d33 d49 d54 a1 a2 a3 a4 a5;simp -implicitDefEqProofs only[AY,rX,sS,Nat.reduceAdd,eb,hw];exact Ev.ret (.inl ⟨rfl,j,by omega,q,r,_,_,_,_,rfl,by omega,a1,a2,a3,a4,a5,rfl⟩)
   have hc:c/2^j=c.fdiv (2^min ((j:Int)).toNat 64):=by
    have:min ((j:Int)).toNat 64=j:=by omega
    rw[this,Int.fdiv_eq_ediv_of_nonneg _ (by exact Int.le_of_lt (Int.pow_pos (by decide)))]
   have hcb:0≤c/2^j∧c/2^j≤65536:=by
    have hp:(0:Int)<2^j:=Int.pow_pos (by decide)
    have h1:0≤c/2^j:=Int.ediv_nonneg (by omega) (by omega)
    have h2:c/2^j≤c:=Int.ediv_le_self _ (by omega)
    omega
   have h2: ∀(q r:Int) (d24 d33 d49 d54:Value),0≤r→r<b→0≤q→q+1≤262144*2→(∀q',q'≤q+1→q'+2≤2*2^(17-j))→
     (if c/2^j%2=0 then Y.cq r0 b c j q r else if r0≥b-r then Y.cq r0 b c j (q+1) (r-(b-r0)) else Y.cq r0 b c j q (r+r0))=Y.cq r0 b c 17 0 0→
     Ev (λn=>rZ (run G n) n [uv r0,uv b,cv c,cv 0,.bool false,cv ((j+1:Nat)-1),d24,cv q,uv r,d33,d49,d54] Hx) λr=>(r.1= .normal∧∃k',k'<j+1∧∃(q r':Int) (d24 d33 d49 d54:Value),r.2.2=Hx∧k'≤17∧0≤r'∧r'<b∧0≤q∧q+2≤2*2^(17-k')∧Y.cq r0 b c k' q r'=Y.cq r0 b c 17 0 0∧r.2.1=[uv r0,uv b,cv c,cv 0,.bool false,cv ((k':Int)-1),d24,cv q,uv r',d33,d49,d54])∨(r.1≠ .normal∧(r.1= .exit 0∧r.2.2=Hx∧∃(d8 d9 d24 d33 d49 d54:Value),r.2.1=[uv r0,uv b,cv c,cv 0,.bool false,d9,d24,cv (Y.cq r0 b c 17 0 0),d8,d33,d49,d54])):=by
    intro q r d24 d33 d49 d54 a1 a2 a3 a4 a5 a6;simp -implicitDefEqProofs only[AZ,rY,sS,Nat.reduceAdd,eb,OR j (by omega),aaD,CM, ←hc,adi hcb.1 (by omega)]
    refine Ev.eql (λhq=>?_) (λhq=>?_)<;>try simp -implicitDefEqProofs only[sS,Nat.reduceAdd,va,aaT]
    ·rw[if_pos hq] at a6;have:=iQ q r d24 d33 (.bool true) d54 a1 a2 a3 (a5 q (by omega)) a6
     rw[eb] at this;exact this
    rw[if_neg hq] at a6;have e1:IntKind.u64.wrap (b-r)=b-r:=Gy (by omega)
    rw[e1];refine Ev.brD (λh3=>?_) (λh3=>?_)<;>try simp -implicitDefEqProofs only[sS,Nat.reduceAdd,va,Sv]
    ·rw[if_pos h3] at a6;have e2:IntKind.i64.wrap (q+1)=q+1:=fZ (by omega)
     have e3:IntKind.u64.wrap (r-IntKind.u64.wrap (b-r0))=r-(b-r0):=by rw[Gy (x:=b-r0) (by omega),Gy (by omega)]
     rw[e2,e3];have:=iQ (q+1) (r-(b-r0)) d24 d33 (.bool false) (.bool (decide (r0≥b-r))) (by omega) (by omega) (by omega) (a5 _ (by omega)) a6
     rw[eb] at this;exact this
    ·rw[if_neg h3] at a6;have e3:IntKind.u64.wrap (r+r0)=r+r0:=Gy (by omega)
     rw[e3];have:=iQ q (r+r0) d24 d33 (.bool false) (.bool (decide (r0≥b-r))) (by omega) (by omega) a3 (a5 q (by omega)) a6
     rw[eb] at this;exact this
   have TZ:(let q1:=if r≥b-r then 2*q+1 else 2*q
    let r1:=if r≥b-r then r-(b-r) else r+r
    if c/2^j%2=0 then Y.cq r0 b c j q1 r1 else if r0≥b-r1 then Y.cq r0 b c j (q1+1) (r1-(b-r0)) else Y.cq r0 b c j q1 (r1+r0))=Y.cq r0 b c 17 0 0:=hE
   have e0:IntKind.i64.wrap (2*q)=2*q:=fZ (by omega)
   have e1:IntKind.u64.wrap (b-r)=b-r:=Gy (by omega)
   simp -implicitDefEqProofs only[aaT,e1,e0,sS,Nat.reduceAdd];refine Ev.brD (λh3=>?_) (λh3=>?_)<;>try simp -implicitDefEqProofs only[sS,Nat.reduceAdd,va,Sv]
   ·have e2:IntKind.i64.wrap (2*q+1)=2*q+1:=fZ (by omega)
    have e3:IntKind.u64.wrap (r-(b-r))=r-(b-r):=Gy (by omega)
    simp only[e0,e1,e2,e3];simp only[if_pos h3] at TZ;exact h2 _ _ _ _ _ _ (by omega) (by omega) (by omega) (by omega) (λq' h=>qn q' (by omega)) TZ
   ·have e3:IntKind.u64.wrap (r+r)=r+r:=Gy (by omega)
    simp only[e0,e3];simp only[if_neg h3] at TZ;exact h2 _ _ _ _ _ _ (by omega) (by omega) (by omega) (by omega) (λq' h=>qn q' (by omega)) TZ
  ·have:k=0:=by omega
   subst this;rw[←hE];exact Ev.ret (.inr ⟨by simp,rfl,rfl,_,_,_,_,_,_,rfl⟩)
 ·rintro e vs Hx ⟨he,rfl,d8,d9,d24,d33,d49,d54,rfl⟩;simp only at he;subst he;simp -implicitDefEqProofs only[A7,r8,sS,Nat.reduceAdd];exact Ev.ret ⟨rfl,rfl⟩
theorem O5 {a b c:Int}(ha:0≤a)(hb:0≤b)(hc:1≤c):Y.kl a b c≤c:=Y.Bk ha hb hc
theorem SF (a b c d:Int):aF (run G) 143 [cv a,cv b,cv c,cv d] H (Is H (cv (Y.iy a b c d))):=by
 refine Ev.up (t:=λn=>OH (run G n) n (cv a) (cv b) (cv c) (cv d) H) ?_ λn=>IH ..
 simp -implicitDefEqProofs only[OH,sS,Nat.reduceAdd];repeat' (first| (refine Ev.ret ⟨?_,rfl⟩;refine congrArg cv ?_;unfold Y.iy;rw[if_pos (by omega)];done)| ((with_reducible first|refine Ev.lss (λhq=>?_) (λhq=>?_)|refine Ev.gtr (λhq=>?_) (λhq=>?_)|refine Ev.geq (λhq=>?_) (λhq=>?_))<;>try simp -implicitDefEqProofs only[sS,Nat.reduceAdd]))
 all_goals
  refine Ev.is (UG _ _) ?_;refine Ev.is (UG _ _) ?_
  try simp -implicitDefEqProofs only[sS,Nat.reduceAdd]
  have e1:IntKind.i64.wrap (d-1)=d-1:=fZ (by omega)
  rw[e1];refine Ev.is (SE _ (CX _ _) (CX _ _)) ?_
  try simp -implicitDefEqProofs only[sS,Nat.reduceAdd]
  refine Ev.ret ⟨?_,rfl⟩;refine congrArg cv ?_;unfold Y.iy;rw[if_neg (by omega)]
  have g1:=(CX a c).1;have g2:=(CX a b).1;have:=O5 (c:=d-1) g1 g2 (by omega)
  have:=Y.LQ (part:=Y.u9 a c) (whole:=Y.u9 a b) (N:=d-1)
  rw[fZ (by omega)]
theorem LS {n k i:Int}{f:Nat}{s:Y.St}{g:Int→Y.Tr β}(h:s.off=true∨¬i>1):Y.ah (Y.mM n k f i >>= g) s=Y.ah (g 1) s:=by
 cases f with
 |zero=>rfl
 |succ f=>
  rw[Y.al];unfold Y.mM;by_cases h1:i>1
  ·rw[if_pos h1];have h2:=h.resolve_right (λx=>x h1)
   simp only[Y.al,bl,bH,bN,cU,cV,ne_eq,not_true_eq_false,not_false_eq_true,if_true,if_false,Bool.not_true,Bool.not_false,true_and,and_true,false_and,and_false,true_or,or_true,false_or,or_false,Bool.false_eq_true,decide_true,decide_false,h2]
  ·rw[if_neg h1];rfl
theorem O6 {n k i:Int}{f:Nat}{s:Y.St}{g:Int→Y.Tr β}(h:s.off=false)(h1:i>1):Y.ah (Y.mM n k (f+1) i >>= g) s=Y.ah (Y.rd (Y.lG n i) >>= λz=>(if z≤k then pure i else Y.mM n k f (i-1)) >>= g) s:=by
 rw[Y.al]
 conv=>lhs;unfold Y.mM
 rw[if_pos h1];simp only[Y.al,bl,bH,bN,cU,cV,ne_eq,not_true_eq_false,not_false_eq_true,if_true,if_false,Bool.not_true,Bool.not_false,true_and,and_true,false_and,and_false,true_or,or_true,false_or,or_false,Bool.false_eq_true,decide_true,decide_false,h]
theorem SG {n k m i:Int}{f:Nat}{s:Y.St}{g:Int→Y.Tr β}(h:s.off=true∨¬i<m):Y.ah (Y.LK n k m f i >>= g) s=Y.ah (g (m-1)) s:=by
 cases f with
 |zero=>rfl
 |succ f=>
  rw[Y.al];unfold Y.LK;by_cases h1:i<m
  ·rw[if_pos h1];have h2:=h.resolve_right (λx=>x h1)
   simp only[Y.al,bl,bH,bN,cU,cV,ne_eq,not_true_eq_false,not_false_eq_true,if_true,if_false,Bool.not_true,Bool.not_false,true_and,and_true,false_and,and_false,true_or,or_true,false_or,or_false,Bool.false_eq_true,decide_true,decide_false,h2]
  ·rw[if_neg h1];rfl
theorem X7 {n k m i:Int}{f:Nat}{s:Y.St}{g:Int→Y.Tr β}(h:s.off=false)(h1:i<m):Y.ah (Y.LK n k m (f+1) i >>= g) s=Y.ah (Y.rd (Y.lG n i) >>= λz=>(if z>k then pure (i-1) else Y.LK n k m f (i+1)) >>= g) s:=by
 rw[Y.al]
 conv=>lhs;unfold Y.LK
 rw[if_pos h1];simp only[Y.al,bl,bH,bN,cU,cV,ne_eq,not_true_eq_false,not_false_eq_true,if_true,if_false,Bool.not_true,Bool.not_false,true_and,and_true,false_and,and_false,true_or,or_true,false_or,or_false,Bool.false_eq_true,decide_true,decide_false,h]
theorem Gz (h:JX K p st H){a k d z:Int}{f:Nat}{i:Int}(hz:2≤z∧z≤65536)(hi:0≤i∧i≤65536)(hf:st.left≤f){t:Y.Tr (Int×Int)}{LU:Y.St}(E:Y.ah t LU=Y.ah (Y.mM a k f i >>= λi=>pure (d,i)) st){x6 x7 bn aC bS bP aO cJ aN dA fI ij fJ aM fR fN:Value}:
  Ev (λn=>cl (iter n (vr (run G n) n) [pv p,cv a,cv k,x6,x7,cv d,cv z,bn,aC,bS,bP,aO,cJ,aN,dA,fI,(cv i),ij,fJ,aM,fR,fN] H) (dI 0 (dP (vt (run G n) n) (dP (Cm (run G n) n) (ef Tryz.prog [.tmp 6,.tmp 7] [0,1,2,6,7,8,9,21,10,29,32,11,41,12,56,68,13,79,88,14,103,112]))))) λr=>ka K p LU t r.1 r.2:=by
 refine Ev.loop (k:=st.left) (λk' vs Hx=>∃(i:Int) (sx:Y.St) (f:Nat) (x6 x7 bn aC bS bP aO cJ aN dA fI ij fJ aM fR fN:Value),vs=[pv p,cv a,cv k,x6,x7,cv d,cv z,bn,aC,bS,bP,aO,cJ,aN,dA,fI,cv i,ij,fJ,aM,fR,fN]∧JX K p sx Hx∧k'=sx.left∧sx.left≤f∧(0≤i∧i≤65536)∧Y.ah t LU=Y.ah (Y.mM a k f i >>= λi=>pure (d,i)) sx)
  (λr=>∃(sx:Y.St) (u:Int),JX K p sx r.2.2∧Y.ah t LU=((d,u),sx)∧((r.1= .exit 0∧u=1)∨(r.1= .ret∧r.2.1[3]? =some (cv d)∧r.2.1[4]? =some (cv u)))∧∃(x6 x7 bn aC bS bP aO cJ aN dA fI aI ij fJ aM fR fN:Value),r.2.1=[pv p,cv a,cv k,x6,x7,cv d,cv z,bn,aC,bS,bP,aO,cJ,aN,dA,fI,aI,ij,fJ,aM,fR,fN]) ⟨i,st,f,_,_,_,_,_,_,_,_,_,_,_,_,_,_,_,_,rfl,h,rfl,hf,hi,E⟩ ?_ ?_
 ·rintro k' vs Hx ⟨i,sx,f,x6,x7,bn,aC,bS,bP,aO,cJ,aN,dA,fI,ij,fJ,aM,fR,fN,rfl,hj,rfl,hf,hi,E⟩;simp -implicitDefEqProofs only[AS,rP,sS,Nat.reduceAdd];have out:(sx.off=true∨¬i>1)→Y.ah t LU=((d,1),sx):=by
   intro hn;rw[E,LS hn];rfl
  refine Ev.gtr (λh1=>?_) (λh1=>?_)<;>try simp -implicitDefEqProofs only[sS,Nat.reduceAdd]
  ·refine Ev.nX hj (λhq=>?_) (λhq=>?_)<;>try simp -implicitDefEqProofs only[sS,Nat.reduceAdd]
   ·exact Ev.ret (.inr ⟨by simp,sx,_,hj,out (.inl hq),.inl ⟨rfl,rfl⟩,_,_,_,_,_,_,_,_,_,_,_,_,_,_,_,_,_,rfl⟩)
   refine Ev.is (pC _ _) ?_;refine Ev.eY (cZ hj _) λq s1 H1 e1 fG=>?_
   have l1:=dk e1;have l2:=iN hq;obtain⟨fy,rfl⟩: ∃fy,f=fy+1:=⟨f-1,by omega⟩
   rw[O6 hq h1,Y.al,e1] at E
   try simp -implicitDefEqProofs only[sS,Nat.reduceAdd]
   refine Ev.leq (λh2=>?_) (λh2=>?_)<;>try simp -implicitDefEqProofs only[sS,Nat.reduceAdd]
   ·try rw[fZ (x:=i-1) (by omega)]
    refine Ev.ret (.inr ⟨by simp,s1,i,fG,?_,.inr ⟨rfl,rfl,rfl⟩,_,_,_,_,_,_,_,_,_,_,_,_,_,_,_,_,_,rfl⟩)
    rw[E];simp only[if_pos h2,Y.al,bl,bH,bN,cU,cV,ne_eq,not_true_eq_false,not_false_eq_true,if_true,if_false,Bool.not_true,Bool.not_false,true_and,and_true,false_and,and_false,true_or,or_true,false_or,or_false,Bool.false_eq_true,decide_true,decide_false]
   ·rw[fZ (x:=i-1) (by omega)]
    refine Ev.ret (.inl ⟨rfl,s1.left,by omega,i-1,s1,fy,_,_,_,_,_,_,_,_,_,_,_,_,_,_,_,_,rfl,fG,rfl,by omega,by omega,?_⟩)
    rw[E];simp only[if_neg h2]
  ·exact Ev.ret (.inr ⟨by simp,sx,_,hj,out (.inr h1),.inl ⟨rfl,rfl⟩,_,_,_,_,_,_,_,_,_,_,_,_,_,_,_,_,_,rfl⟩)
 ·rintro e vs H1 ⟨sx,u,hj,E,hu,x6,x7,bn,aC,bS,bP,aO,cJ,aN,dA,fI,aI,ij,fJ,aM,fR,fN,hv⟩;simp only at hv hu hj;subst hv;rcases hu with⟨rfl,rfl⟩|⟨rfl,e1,e2⟩
  ·simp -implicitDefEqProofs only[AT,rQ,sS,Nat.reduceAdd];exact Ev.ret (ka.of hj E)
  ·simp only[List.getElem?_cons_succ,List.getElem?_cons_zero,Option.some.injEq] at e1 e2;subst e1 e2;show Ev (λ_=>some (Value.tuple #[cv d,cv u],H1)) _
   exact Ev.ret (ka.of hj E)
theorem EJ (h:JX K p st H){a k d z:Int}{f:Nat}{i:Int}(hz:2≤z∧z≤65536)(hi:1≤i∧i≤65537)(hf:st.left≤f){t:Y.Tr (Int×Int)}{LU:Y.St}(E:Y.ah t LU=Y.ah (Y.LK a k z f i >>= λi=>pure (d,i)) st){x6 x7 bn aC bS bP aO cJ aN dA fI aI ij fJ fR fN:Value}:
  Ev (λn=>cl (iter n (vw (run G n) n) [pv p,cv a,cv k,x6,x7,cv d,cv z,bn,aC,bS,bP,aO,cJ,aN,dA,fI,aI,ij,fJ,(cv i),fR,fN] H) (dI 2 (dP (vx (run G n) n) (ef Tryz.prog [.tmp 6,.tmp 7] [0,1,2,6,7,8,9,21,10,29,32,11,41,12,56,68,13,79,88,14,103,112])))) λr=>ka K p LU t r.1 r.2:=by
 refine Ev.loop (k:=st.left) (λk' vs Hx=>∃(i:Int) (sx:Y.St) (f:Nat) (x6 x7 bn aC bS bP aO cJ aN dA fI aI ij fJ fR fN:Value),vs=[pv p,cv a,cv k,x6,x7,cv d,cv z,bn,aC,bS,bP,aO,cJ,aN,dA,fI,aI,ij,fJ,cv i,fR,fN]∧JX K p sx Hx∧k'=sx.left∧sx.left≤f∧(1≤i∧i≤65537)∧Y.ah t LU=Y.ah (Y.LK a k z f i >>= λi=>pure (d,i)) sx)
  (λr=>∃(sx:Y.St) (u:Int),JX K p sx r.2.2∧Y.ah t LU=((d,u),sx)∧((r.1= .exit 2∧u=z-1)∨(r.1= .ret∧r.2.1[3]? =some (cv d)∧r.2.1[4]? =some (cv u)))∧∃(x6 x7 bn aC bS bP aO cJ aN dA fI aI ij fJ aM fR fN:Value),r.2.1=[pv p,cv a,cv k,x6,x7,cv d,cv z,bn,aC,bS,bP,aO,cJ,aN,dA,fI,aI,ij,fJ,aM,fR,fN]) ⟨i,st,f,_,_,_,_,_,_,_,_,_,_,_,_,_,_,_,_,rfl,h,rfl,hf,hi,E⟩ ?_ ?_
 ·rintro k' vs Hx ⟨i,sx,f,x6,x7,bn,aC,bS,bP,aO,cJ,aN,dA,fI,aI,ij,fJ,fR,fN,rfl,hj,rfl,hf,hi,E⟩;simp -implicitDefEqProofs only[AU,rR,sS,Nat.reduceAdd];have out:(sx.off=true∨¬i<z)→Y.ah t LU=((d,z-1),sx):=by
   intro hn;rw[E,SG hn];rfl
  refine Ev.lss (λh1=>?_) (λh1=>?_)<;>try simp -implicitDefEqProofs only[sS,Nat.reduceAdd]
  ·refine Ev.nX hj (λhq=>?_) (λhq=>?_)<;>try simp -implicitDefEqProofs only[sS,Nat.reduceAdd]
   ·exact Ev.ret (.inr ⟨by simp,sx,_,hj,out (.inl hq),.inl ⟨rfl,rfl⟩,_,_,_,_,_,_,_,_,_,_,_,_,_,_,_,_,_,rfl⟩)
   refine Ev.is (pC _ _) ?_;refine Ev.eY (cZ hj _) λq s1 H1 e1 fG=>?_
   have l1:=dk e1;have l2:=iN hq;obtain⟨fy,rfl⟩: ∃fy,f=fy+1:=⟨f-1,by omega⟩
   rw[X7 hq h1,Y.al,e1] at E
   try simp -implicitDefEqProofs only[sS,Nat.reduceAdd]
   refine Ev.gtr (λh2=>?_) (λh2=>?_)<;>try simp -implicitDefEqProofs only[sS,Nat.reduceAdd]
   ·try rw[fZ (x:=i-1) (by omega)]
    refine Ev.ret (.inr ⟨by simp,s1,i-1,fG,?_,.inr ⟨rfl,rfl,rfl⟩,_,_,_,_,_,_,_,_,_,_,_,_,_,_,_,_,_,rfl⟩)
    rw[E];simp only[if_pos h2,Y.al,bl,bH,bN,cU,cV,ne_eq,not_true_eq_false,not_false_eq_true,if_true,if_false,Bool.not_true,Bool.not_false,true_and,and_true,false_and,and_false,true_or,or_true,false_or,or_false,Bool.false_eq_true,decide_true,decide_false]
   ·rw[fZ (x:=i+1) (by omega)]
    refine Ev.ret (.inl ⟨rfl,s1.left,by omega,i+1,s1,fy,_,_,_,_,_,_,_,_,_,_,_,_,_,_,_,_,rfl,fG,rfl,by omega,by omega,?_⟩)
    rw[E];simp only[if_neg h2]
  ·exact Ev.ret (.inr ⟨by simp,sx,_,hj,out (.inr h1),.inl ⟨rfl,rfl⟩,_,_,_,_,_,_,_,_,_,_,_,_,_,_,_,_,_,rfl⟩)
 ·rintro e vs H1 ⟨sx,u,hj,E,hu,x6,x7,bn,aC,bS,bP,aO,cJ,aN,dA,fI,aI,ij,fJ,aM,fR,fN,hv⟩;simp only at hv hu hj;subst hv;rcases hu with⟨rfl,rfl⟩|⟨rfl,e1,e2⟩
  ·simp -implicitDefEqProofs only[AV,rS,sS,Nat.reduceAdd];rw[fZ (x:=z-1) (by omega)]
   exact Ev.ret (ka.of hj E)
  ·simp only[List.getElem?_cons_succ,List.getElem?_cons_zero,Option.some.injEq] at e1 e2;subst e1 e2;show Ev (λ_=>some (Value.tuple #[cv d,cv u],H1)) _
   exact Ev.ret (ka.of hj E)
theorem LV {a b c m:Int}(h: ¬Y.iy a b c m<1):2≤m∧m≤65536∧Y.iy a b c m≤m:=by
 have h1:2≤m∧m≤65536:=by
  refine Decidable.byContradiction λhn=>h ?_
  unfold Y.iy;rw[if_pos (by omega)];decide
 exact⟨h1.1,h1.2,Y.EF h1.1⟩
theorem SH (h:JX K p st H){f:Nat}(hf:st.left≤f)(a k:Int):aF (run G) 117 [pv p,cv a,cv k] H (ka K p st (Y.lf f a k)):=by
 refine Ev.up (t:=λn=>NV (run G n) n (pv p) (cv a) (cv k) H) ?_ λn=>HC ..
 simp -implicitDefEqProofs only[NV,sS,Nat.reduceAdd];refine Ev.eY (cZ h a) λd s1 H1 e1 fG=>?_
 try simp -implicitDefEqProofs only[sS,Nat.reduceAdd,cL]
 refine Ev.lss (λh1=>?_) (λh1=>?_)<;>try simp -implicitDefEqProofs only[sS,Nat.reduceAdd,cL]
 ·refine Ev.ret (ka.of fG ?_);simp only[Y.lf,Y.al,bl,bH,bN,cU,cV,ne_eq,not_true_eq_false,not_false_eq_true,if_true,if_false,Bool.not_true,Bool.not_false,true_and,and_true,false_and,and_false,true_or,or_true,false_or,or_false,Bool.false_eq_true,decide_true,decide_false, *]
 refine Ev.is (pC _ _) ?_;refine Ev.eY (cZ fG _) λq2 s2 H2 e2 fM=>?_
 try simp -implicitDefEqProofs only[sS,Nat.reduceAdd,cL]
 refine Ev.lss (λh2=>?_) (λh2=>?_)<;>try simp -implicitDefEqProofs only[sS,Nat.reduceAdd,cL]
 ·refine Ev.ret (ka.of fM ?_);simp only[Y.lf,Y.al,bl,bH,bN,cU,cV,ne_eq,not_true_eq_false,not_false_eq_true,if_true,if_false,Bool.not_true,Bool.not_false,true_and,and_true,false_and,and_false,true_or,or_true,false_or,or_false,Bool.false_eq_true,decide_true,decide_false, *]
 refine Ev.eql (λh3=>?_) (λh3=>?_)<;>try simp -implicitDefEqProofs only[sS,Nat.reduceAdd,cL]
 ·refine Ev.ret (ka.of fM ?_);simp only[Y.lf,Y.al,bl,bH,bN,cU,cV,ne_eq,not_true_eq_false,not_false_eq_true,if_true,if_false,Bool.not_true,Bool.not_false,true_and,and_true,false_and,and_false,true_or,or_true,false_or,or_false,Bool.false_eq_true,decide_true,decide_false, *];simp only[Int.lt_irrefl,if_false,if_true,e2,h2,Y.al,bl,bH,bN,cU,cV,ne_eq,not_true_eq_false,not_false_eq_true,if_true,if_false,Bool.not_true,Bool.not_false,true_and,and_true,false_and,and_false,true_or,or_true,false_or,or_false,Bool.false_eq_true,decide_true,decide_false]
 refine Ev.is (pC _ _) ?_;refine Ev.eY (cZ fM _) λq3 s3 H3 e3 gF=>?_
 try simp -implicitDefEqProofs only[sS,Nat.reduceAdd,cL]
 refine Ev.geq (λh4=>?_) (λh4=>?_)<;>try simp -implicitDefEqProofs only[sS,Nat.reduceAdd,cL]
 ·refine Ev.ret (ka.of gF ?_);simp only[Y.lf,Y.al,bl,bH,bN,cU,cV,ne_eq,not_true_eq_false,not_false_eq_true,if_true,if_false,Bool.not_true,Bool.not_false,true_and,and_true,false_and,and_false,true_or,or_true,false_or,or_false,Bool.false_eq_true,decide_true,decide_false, *]
 refine Ev.is (SF _ _ _ _) ?_
 try simp -implicitDefEqProofs only[sS,Nat.reduceAdd,cL]
 have B:Y.ah (Y.lf f a k) st=Y.ah (if s3.off=true∨Y.iy q2 q3 k (Y.wr (d-1))<1 then pure (d,0) else do
   let down ←(if Y.iy q2 q3 k (Y.wr (d-1))>1 then do
     let z ←Y.rd (Y.lG a (Y.iy q2 q3 k (Y.wr (d-1))))
     pure (decide (z>k))
    else pure false)
   if down then
    let i ←Y.mM a k f (Y.iy q2 q3 k (Y.wr (d-1))-1)
    pure (d,i)
   else
    let i ←Y.LK a k (Y.wr (d-1)) f (Y.iy q2 q3 k (Y.wr (d-1))+1)
    pure (d,i)) s3:=by
  simp only[Y.lf,Y.al,bl,bH,bN,cU,cV,ne_eq,not_true_eq_false,not_false_eq_true,if_true,if_false,Bool.not_true,Bool.not_false,true_and,and_true,false_and,and_false,true_or,or_true,false_or,or_false,Bool.false_eq_true,decide_true,decide_false,h1,h2,h3,h4,e1,e2,e3];rfl
 have l1:=dk e1;have l2:=dk e2;have l3:=dk e3;have gp:=@LV q2 q3 k (Y.wr (d-1));generalize Y.iy q2 q3 k (Y.wr (d-1))=j at*
 generalize Y.wr (d-1)=m at*
 refine Ev.nX gF (λhq=>?_) (λhq=>?_)<;>try simp -implicitDefEqProofs only[sS,Nat.reduceAdd,cL]
 ·refine Ev.ret (ka.of gF ?_);rw[B,if_pos (.inl hq)];rfl
 refine Ev.lss (λh5=>?_) (λh5=>?_)<;>try simp -implicitDefEqProofs only[sS,Nat.reduceAdd,cL]
 ·refine Ev.ret (ka.of gF ?_);rw[B,if_pos (.inr h5)];rfl
 obtain⟨g1,g2,g3⟩:=gp h5;rw[if_neg (by rw[hq];simp;omega)] at B
 refine Ev.gtr (λh6=>?_) (λh6=>?_)<;>try simp -implicitDefEqProofs only[sS,Nat.reduceAdd,cL]
 ·refine Ev.is (pC _ _) ?_;refine Ev.eY (cZ gF _) λq4 s4 H4 e4 jb=>?_
  have l4:=dk e4;rw[if_pos h6] at B;simp only[Y.bind_assoc] at B
  try simp -implicitDefEqProofs only[sS,Nat.reduceAdd,cL]
  refine Ev.gtr (λh7=>?_) (λh7=>?_)<;>try simp -implicitDefEqProofs only[sS,Nat.reduceAdd,cL]
  ·have e5:Y.wr (j-1)=j-1:=by unfold Y.wr;omega
   try rw[e5]
   exact Gz jb (f:=f) (i:=j-1) (z:=m) (d:=d) (a:=a) (k:=k) ⟨g1,g2⟩ (by omega) (by omega) (by rw[B,Y.aJ e4];simp only[h7,decide_true,Y.bind_pure,if_true])
  ·have e5:Y.wr (j+1)=j+1:=by unfold Y.wr;omega
   rw[e5];exact EJ jb (f:=f) (i:=j+1) (z:=m) (d:=d) (a:=a) (k:=k) ⟨g1,g2⟩ (by omega) (by omega) (by rw[B,Y.aJ e4];simp only[h7,decide_false,Y.bind_pure,if_false,Bool.false_eq_true])
 ·have e5:Y.wr (j+1)=j+1:=by unfold Y.wr;omega
  try rw[e5]
  rw[if_neg h6] at B;exact EJ gF (f:=f) (i:=j+1) (z:=m) (d:=d) (a:=a) (k:=k) ⟨g1,g2⟩ (by omega) (by omega) (by rw[B];simp only[Y.bind_pure,if_false,Bool.false_eq_true])
theorem SI (h:JX K p st H){f:Nat}(hf:st.left≤f)(a k:Int):aF (run G) 144 [pv p,cv a,cv k] H (oS K p st (Y.nB f a k)):=by
 refine Ev.up (t:=λn=>NK (run G n) n (pv p) (cv a) (cv k) H) ?_ λn=>Hu ..
 simp -implicitDefEqProofs only[NK,sS,Nat.reduceAdd];refine Ev.aaB (SH h hf a k) λd c s1 H1 e1 fG=>?_
 try simp -implicitDefEqProofs only[sS,Nat.reduceAdd]
 refine Ev.is (kN _ _ _) ?_
 try simp -implicitDefEqProofs only[sS,Nat.reduceAdd]
 refine Ev.ret (oS.of fG ?_);simp only[Y.nB,Y.al,bl,bH,bN,cU,cV,ne_eq,not_true_eq_false,not_false_eq_true,if_true,if_false,Bool.not_true,Bool.not_false,true_and,and_true,false_and,and_false,true_or,or_true,false_or,or_false,Bool.false_eq_true,decide_true,decide_false,e1]
end
end Go.Proofs.YtgfgglponbmgmaaGreat.Fun
end
