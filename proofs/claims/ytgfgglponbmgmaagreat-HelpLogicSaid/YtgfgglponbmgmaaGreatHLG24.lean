/- Texts of the proof of helpLogic_holds, put together by a small program of ours (names shortened, spaces taken out). No condition beyond the given statement. -/
import Derived.Test.YtgfgglponbmgmaaGreatHLG23
import Derived.Test.YtgfgglponbmgmaaGreatHLG12
import Derived.Test.YtgfgglponbmgmaaGreatHLG13
import Derived.Test.YtgfgglponbmgmaaGreatHLG11
import Derived.Test.YtgfgglponbmgmaaGreatHLG16
import Derived.Test.YtgfgglponbmgmaaGreatHLG17
import Derived.Test.YtgfgglponbmgmaaGreatHLG21
set_option linter.unusedVariables false
set_option linter.unusedSimpArgs false
set_option linter.unnecessarySimpa false
noncomputable section
section
namespace Go.Proofs.YtgfgglponbmgmaaGreatA.Y
variable {G:Ga} {c s o w:Int} {p:List Nat} {α β:Type} {t n:Nat}
theorem pD {part whole N:Int}(hp:0≤part∧part≤whole)(hw:0<whole): ∀(b:Nat) (q r:Int),0≤r∧r<whole→q*whole+r=part*(N/2^b)→cl part whole N b q r*whole≤part*N
 |0,q,r,hr,h=>by
  unfold cl;simp at h;omega
 |b+1,q,r,hr,h=>by
  unfold cl;have e2:N/2^b=2*(N/2^(b+1))+N/2^b%2:=by
   have:N/2^(b+1)=N/2^b/2:=by
    rw[Int.pow_succ,Int.ediv_ediv_of_nonneg (Int.le_of_lt (Int.pow_pos (by decide)))]
   rw[this];omega
  have qv: ∀(q1 r1:Int),(q1=if r≥whole-r then 2*q+1 else 2*q)→(r1=if r≥whole-r then r-(whole-r) else r+r)→0≤r1∧r1<whole∧q1*whole+r1=2*(part*(N/2^(b+1))):=by
   rintro q1 r1 rfl rfl;rw[←h];split
   ·refine⟨by omega,by omega,?_⟩
    rw[Int.add_mul,Int.mul_assoc];omega
   ·refine⟨by omega,by omega,?_⟩
    rw[Int.mul_assoc];omega
  have key: ∀q1 r1:Int,0≤r1∧r1<whole∧q1*whole+r1=2*(part*(N/2^(b+1)))→
    (if N/2^b%2=0 then cl part whole N b q1 r1 else if part≥whole-r1 then cl part whole N b (q1+1) (r1-(whole-part)) else cl part whole N b q1 (r1+part))*whole≤part*N:=by
   rintro q1 r1 ⟨a1,a2,a3⟩;split
   ·next hb=>
    refine pD hp hw b _ _ ⟨a1,a2⟩ ?_;rw[a3,e2,hb,Int.add_zero, ←Int.mul_assoc, ←Int.mul_assoc,Int.mul_comm 2 part]
   ·next hb=>
    have Uv:N/2^b%2=1:=by omega
    have e3:part*(N/2^b)=2*(part*(N/2^(b+1)))+part:=by
     rw[e2,Uv,Int.mul_add,Int.mul_one, ←Int.mul_assoc, ←Int.mul_assoc,Int.mul_comm 2 part]
    split
    ·refine pD hp hw b _ _ ⟨by omega,by omega⟩ ?_
     rw[e3, ←a3,Int.add_mul,Int.one_mul];omega
    ·refine pD hp hw b _ _ ⟨by omega,by omega⟩ ?_
     rw[e3, ←a3];omega
  exact key _ _ (qv _ _ rfl rfl)
theorem AS {part whole N:Int}(hp:0≤part)(hw:0≤whole)(hN:1≤N):kf part whole N≤N:=by
 unfold kf;split
 ·omega
 ·next h=>
  have Z3:0<whole:=by omega
  have key: ∀q:Int,0≤q∧q≤whole→cl q whole N 17 0 0≤N:=by
   intro q hq;have:=pD (part:=q) (whole:=whole) (N:=N) hq Z3 17 0 0 ⟨by omega,by omega⟩ (by
    have:N/2^17=0:=Int.ediv_eq_zero_of_lt (by omega) (by omega)
    rw[this];simp)
   have h2:q*N≤whole*N:=Int.mul_le_mul_of_nonneg_right hq.2 (by omega)
   have h3:cl q whole N 17 0 0*whole≤N*whole:=by rw[Int.mul_comm N];omega
   exact Int.le_of_mul_le_mul_right h3 Z3
  exact key _ (by split<;>omega)
theorem pE {part whole N:Int}: ∀(b:Nat) (q r:Int),0≤q→0≤cl part whole N b q r
 |0,q,r,h=>h
 |b+1,q,r,h=>by
  have key: ∀q1 r1:Int,0≤q1→0≤(if N/2^b%2=0 then cl part whole N b q1 r1 else if part≥whole-r1 then cl part whole N b (q1+1) (r1-(whole-part)) else cl part whole N b q1 (r1+part)):=by
   intro q1 r1 h1;split
   ·exact pE b _ _ h1
   ·split
    ·exact pE b _ _ (by omega)
    ·exact pE b _ _ h1
  unfold cl;exact key _ _ (by split<;>omega)
theorem K9 {part whole N:Int}:0≤kf part whole N:=by
 unfold kf;split
 ·omega
 ·exact pE _ _ _ (by omega)
theorem Ec {first last k m:Int}(hm:2≤m):ig first last k m≤m:=by
 unfold ig;split
 ·omega
 ·have g: ∀a b,0≤uT a b:=by intro a b;unfold uT;split<;>omega
  have:=AS (g first k) (g first last) (N:=m-1) (by omega)
  omega
theorem yQ {a k hi:Int}: ∀(f:Nat) (i:Int) {G:Ga} {n:Nat},i≤hi→1≤hi→Safe t n (mF a k f i) G λ_ z _=>1≤z∧z≤hi
 |0,i,_,_,h,h1=>Safe.ret λ_ _ _ _ _=>⟨by omega,by omega⟩
 |f+1,i,G,n,h,h1=>by
  unfold mF;split
  ·cases n with
   |zero=>exact Safe.zero
   |succ n=>
    show Safe t (n+1) (rd (lC a i) >>= _) G _
    refine kH λG1 m1 j1 _ _ _=>?_
    split
    ·exact Safe.ret λ_ _ _ _ _=>⟨by omega,by omega⟩
    ·exact yQ f (i-1) (by omega) h1
  ·exact Safe.ret λ_ _ _ _ _=>⟨by omega,by omega⟩
theorem Ed {a k m:Int}(hm:2≤m): ∀(f:Nat) (i:Int) {G:Ga} {n:Nat},2≤i→Safe t n (KY a k m f i) G λ_ z _=>1≤z∧z≤m
 |0,i,_,_,h=>Safe.ret λ_ _ _ _ _=>⟨by omega,by omega⟩
 |f+1,i,G,n,h=>by
  unfold KY;split
  ·cases n with
   |zero=>exact Safe.zero
   |succ n=>
    show Safe t (n+1) (rd (lC a i) >>= _) G _
    refine kH λG1 m1 j1 _ _ _=>?_
    split
    ·exact Safe.ret λ_ _ _ _ _=>⟨by omega,by omega⟩
    ·exact Ed hm f (i+1) (by omega)
  ·exact Safe.ret λ_ _ _ _ _=>⟨by omega,by omega⟩
theorem bs.Xa {m:Mm}(h:bs G m){d:Nat}(t0:G.ty c=some (.inner d p)):m.at c=d∧1≤d∧d≤16384∧1≤c∧c≤16384:=by
 have h1:=(h.ij _ _ t0).2.1;have h2:=(h.ij _ _ t0).1;have h3:=h.room _ _ t0;have h4:=h.top;simp[Rec.size] at h3;exact⟨h1,h2,by omega,by omega,by omega⟩
theorem Ee {f:Nat}{d:Nat}{k:Int}(t0:G.ty c=some (.inner d p)):Safe t n (kW f c k) G λ_ dc _=>dc.1=d∧0≤dc.2∧dc.2<d:=by
 unfold kW;refine kH λG1 m1 j1 l1 i1 _=>?_
 obtain⟨e1,d1,d2,_⟩:=i1.Xa (l1.le.ty _ _ t0);rw[e1,ji (by omega)]
 simp only;split
 ·exact Safe.ret λ_ _ _ _ _=>⟨rfl,by simp,by simp;omega⟩
 refine kH λG2 m2 j2 l2 i2 _=>?_
 split
 ·exact Safe.ret λ_ _ _ _ _=>⟨rfl,by simp,by simp;omega⟩
 split
 ·exact Safe.ret λ_ _ _ _ _=>⟨rfl,by simp,by simp;omega⟩
 refine kH λG3 m3 j3 l3 i3 _=>?_
 split
 ·exact Safe.ret λ_ _ _ _ _=>⟨rfl,by simp;omega,by simp;omega⟩
 have gl:=Ec (first:=m2.at (lC c 1)) (last:=m3.at (lC c (d-1))) (k:=k) (m:=d-1) (by omega)
 generalize hj:ig (m2.at (lC c 1)) (m3.at (lC c (d-1))) k (d-1)=j at gl
 cases j3 with
 |zero=>exact Safe.zero
 |succ j3=>
  show Safe t (j3+1) (if false=true∨j<1 then _ else _) G3 _
  split
  ·exact Safe.ret λ_ _ _ _ _=>⟨rfl,by simp,by simp;omega⟩
  next fv=>
  have tail: ∀(b:Bool) {G:Ga} {n:Nat},(b=true→j>1)→Safe t n (if b=true then mF c k f (j-1) >>= λi=>Tr.ret ((d:Int),i) else KY c k (d-1) f (j+1) >>= λi=>Tr.ret ((d:Int),i)) G λ_ dc _=>dc.1=d∧0≤dc.2∧dc.2<d:=by
   intro b G n hb;split
   ·next Mq=>
    refine Safe.bind ((yQ f (j-1) (hi:=j-1) (by omega) (by have:=hb Mq;omega)).wk λj _ G1 _ _ h=>?_)
    exact Safe.ret λ_ _ _ _ _=>⟨rfl,by simp;omega,by simp;omega⟩
   ·refine Safe.bind ((Ed (by omega) f (j+1) (by omega)).wk λj _ G1 _ _ h=>?_)
    exact Safe.ret λ_ _ _ _ _=>⟨rfl,by simp;omega,by simp;omega⟩
  by_cases h1:j>1
  ·simp only[h1,if_true];refine kH λG4 m4 j4 l4 i4 _=>?_
   exact tail (decide (m4.at (lC c j)>k)) λ_=>h1
  ·simp only[h1,if_false];exact tail false λh=>by cases h
theorem jX {d:Nat}{i:Int}(hc:1≤c∧c≤16384)(hd:d≤16384)(hi:0≤i∧i<d):dh c d i=bV c d i.toNat:=by
 unfold dh D4 bV;rw[if_neg (by simp;omega)];omega
theorem Ef {f:Nat}{d:Nat}{k:Int}(t0:G.ty c=some (.inner d p)):Safe t n (nt f c k) G λ_ s G'=>∃q,aQ G' s c q:=by
 unfold nt;refine Safe.bind ((Ee t0).wk λj dc G1 _ g1 h=>?_)
 refine Safe.ret λG2 m2 l2 i2 _=>?_
 have t2:=l2.le.ty _ _ (g1.ty _ _ t0);obtain⟨e1,d1,d2,c1,c2⟩:=i2.Xa t2;rw[h.1,jX ⟨c1,c2⟩ d2 h.2];exact⟨_,d,p,dc.2.toNat,t2,by omega,rfl,rfl⟩
theorem aQ.mk' {d i:Nat}(t0:G.ty c=some (.inner d p))(hi:i<d):aQ G (bV c d i) c (p++[i]):=⟨d,p,i,t0,hi,rfl,rfl⟩
def Z6 (t f:Nat):Prop:=
 (∀{G:Ga} {c:Int} {p:List Nat} {d n:Nat},n≤f→G.ty c=some (.inner d p)→full G c d→Safe t n (jV f c) G λ_ z G'=>∃k:Nat,z=k∧sk G' c k)∧
 (∀{G:Ga} {c:Int} {p:List Nat} {d n i all:Nat},n≤f→G.ty c=some (.inner d p)→full G c d→G.shut c→i≤d→gi G c d i all→Safe t n (ir f c d i all) G λ_ z G'=>∃k:Nat,z=k∧gi G' c d d k)
theorem AT: ∀f,Z6 t f
 |0=>⟨λ{_ _ _ _ n} hn _ _=>by
   have:n=0:=by omega
   subst this;exact Safe.zero,λ{_ _ _ _ n _ _} hn _ _ _ _ _=>by
   have:n=0:=by omega
   subst this;exact Safe.zero⟩
 |f+1=>by
  obtain⟨ihT,ihL⟩:=AT f;refine⟨?_,?_⟩
  ·intro G c p d n hn t0 hf;unfold jV;refine kH λG1 m1 j1 l1 i1 e1=>?_
   have t1:=l1.le.ty _ _ t0;obtain⟨_,_,_,h4,_⟩:=i1.ij _ _ t1;split
   ·next hz=>
    rcases h4 with h4|⟨k,h4,ck⟩
    ·exact absurd h4 hz
    ·have:=ck.le i1
     refine Safe.ret λG2 m2 l2 i2 _=>⟨k,?_,ck.mono l2.le⟩
     rw[h4,ji (by omega)];omega
   refine ZU t1 λG2 z2 j2 l2 e2 sh2=>?_
   refine kH λG3 m3 j3 l3 i3 e3=>?_
   have t3:=l3.le.ty _ _ (l2.le.ty _ _ t1);rw[(i3.Xa t3).1];have f3:=full.mono l3.le (full.mono l2.le (full.mono l1.le hf));refine Safe.bind ((ihL (i:=0) (all:=0) (by omega) t3 f3 (l3.le.shut _ sh2) (by omega) .zero).wk λj z G4 _ g4 h=>?_)
   obtain⟨k,rfl,ck⟩:=h;have t4:=g4.ty _ _ t3;have sh4:=g4.shut _ (l3.le.shut _ sh2);have c4:sk G4 c k:=.mk t4 sh4 ck;refine Safe.real λG5 m5 l5 i5=>?_
   have:=(c4.mono l5.le).le i5
   rw[ji (by omega)]
   refine ZV (l5.le.ty _ _ t4) (c4.mono l5.le) λG6 z6 j6 l6 _=>?_
   exact Safe.ret λG7 m7 l7 _ _=>⟨k,rfl,((c4.mono l5.le).mono l6.le).mono l7.le⟩
  ·intro G c p d n i all hn t0 hf hs hi hc;unfold ir;split
   ·next h=>
    have:i=d:=by omega
    subst this;exact Safe.ret λG2 m2 l2 _ _=>⟨all,rfl,hc.mono l2.le⟩
   ·next h=>
    cases n with
    |zero=>exact Safe.zero
    |succ n=>
     show Safe t (n+1) (kr f (dh c d i) >>= _) G _
     refine Safe.real λG0 m0 l0 i0=>?_
     obtain⟨_,d1,d2,c1,c2⟩:=i0.Xa (l0.le.ty _ _ t0);rw[jX ⟨c1,c2⟩ d2 (i:=(i:Int)) ⟨by omega,by omega⟩,Int.toNat_natCast]
     have tt:=l0.le.ty _ _ t0;have so:aQ G0 (bV c d i) c (p++[i]):=aQ.mk' tt (by omega)
     have LX:G0.nz (bV c d i):=l0.le.nz _ (hf i (by omega))
     refine Safe.bind ((yP (by omega) so).wk λj w G1 hj g1 h=>?_)
     obtain⟨hjn,h⟩:=h;rcases h with⟨_,h⟩|⟨fw,kO⟩
     ·exact absurd LX h
     have fz:=kO (l0.le.shut _ hs);have t1:=g1.ty _ _ tt;have f1:=full.mono g1 (full.mono l0.le hf);have s1:=g1.shut _ (l0.le.shut _ hs);have TD:=(hc.mono l0.le).mono g1;have e1:((i:Int)+1)=((i+1:Nat):Int):=by omega
     have add: ∀{G2:Ga} {z k j:Nat},G1.le G2→z=all+k→gi G2 c d (i+1) z→j≤f→Safe t j (ir f c d ((i:Int)+1) (wr ((all:Int)+k))) G2 λ_ z G'=>∃k:Nat,z=k∧gi G' c d d k:=by
      intro G2 z k j g2 ez cz hj;refine Safe.real λG3 m3 l3 i3=>?_
      have t3:=l3.le.ty _ _ (g2.ty _ _ t1);have:=(cz.mono l3.le).le i3 t3 (by omega)
      rw[ji (by omega),e1]
      have e2:(all:Int)+k=(z:Int):=by omega
      rw[e2];exact ihL hj t3 (full.mono l3.le (full.mono g2 f1)) (l3.le.shut _ (g2.shut _ s1)) (by omega) (cz.mono l3.le)
     rcases fw.2 with k|k|⟨k,d',t',f'⟩|⟨k,c',s',o',d',tr,Ip,t',f'⟩
     ·rw[if_neg (by omega),if_neg (by omega),if_neg (by omega),e1]
      exact ihL (by omega) t1 f1 s1 (by omega) (.empty TD fz k)
     ·rw[if_pos k];exact add (Ga.le.refl _) rfl (.leaf TD fz k) (by omega)
     ·rw[if_neg (by omega),if_pos k]
      refine Safe.bind ((ihT (by omega) t' f').wk λj2 z G2 fH g2 h=>?_)
      obtain⟨kk,rfl,ck⟩:=h;exact add g2 rfl (.inner (TD.mono g2) (g2.dx _ _ fz) k ck) (by omega)
     ·rw[if_neg (by omega),if_neg (by omega),if_pos k]
      refine kH λG2 m2 j2 l2 i2 e2=>?_
      have tr2:=l2.le.ty _ _ tr;obtain⟨_,_,_,_,_,_,_,aw2,_⟩:=i2.ij _ _ tr2;rw[aw2];refine Safe.bind ((ihT (by omega) (l2.le.ty _ _ t') (full.mono l2.le f')).wk λj3 z G3 gA g3 h=>?_)
      obtain⟨kk,rfl,ck⟩:=h;exact add (l2.le.trans g3) rfl (.bT ((TD.mono l2.le).mono g3) (g3.dx _ _ (l2.le.dx _ _ fz)) k (g3.ty _ _ tr2) ck) (by omega)
theorem FZ {f d:Nat}(hn:n≤f)(t0:G.ty c=some (.inner d p))(hf:full G c d):Safe t n (jV f c) G λ_ z G'=>∃k:Nat,z=k∧sk G' c k:=(AT f).1 hn t0 hf
theorem tC {a:Int}{q cs:List Int}(h:cs.length=q.length+1):cP a q cs=[(cs.length:Int),a,0,0,0]++q++cs:=by
 unfold cP;rw[if_neg (by omega)]
theorem AU {a:Int}{q cs:List Int}(h:cs.length=q.length+1){i:Nat}(hi:i<cs.length):(cP a q cs).getD (4+cs.length+i) 0=cs.getD i 0:=by
 rw[tC h];simp only[List.getD_eq_getElem?_getD];rw[List.getElem?_append_right (by simp;omega)]
 congr 2;simp;omega
theorem Made.fit {a x:Int}{q cs:List Int}(h:cs.length=q.length+1)(k:Made G a (.inner cs.length p) (cP x q cs))(hc: ∀i,i<cs.length→cs.getD i 0≠0):da G p (fI 3 a):=by
 refine⟨nZ.fI (by omega) k.pos k.ty,.inr (.inr (.inl ⟨ik (by omega) k.pos,cs.length,?_,?_⟩))⟩
 ·rw[iO (by omega) k.pos];exact k.ty
 ·rw[iO (by omega) k.pos]
  intro i hi;exact k.nz cs.length p i rfl hi (by rw[AU h hi];exact hc i hi)
def Z7 (t f:Nat):Prop:=
 (∀{G:Ga} {n:Nat} (l:PL) (p:List Nat),Safe t n (iu f l) G λ_ x G'=>x.2=true→da G' p x.1)∧
 (∀{G:Ga} {n:Nat} (l:PL) (p:List Nat) (r i:Nat) (q cs:List Int),cs.length=i→(i=0∧q=[]∨q.length+1=i)→(∀j,j<i→da G (p++[j]) (cs.getD j 0))→
  Safe t n (kY f l r i q cs) G λ_ x G'=>x.2=true→da G' p x.1)
theorem La: ∀f,Z7 t f:=by
 intro f;have hL: ∀f,(∀{G:Ga} {n:Nat} (l:PL) (p:List Nat),Safe t n (iu f l) G λ_ x G'=>x.2=true→da G' p x.1)→
   ∀{G:Ga} {n:Nat} (l:PL) (p:List Nat) (r i:Nat) (q cs:List Int),cs.length=i→(i=0∧q=[]∨q.length+1=i)→(∀j,j<i→da G (p++[j]) (cs.getD j 0))→
    Safe t n (kY f l r i q cs) G λ_ x G'=>x.2=true→da G' p x.1:=by
  intro f hT G n l p r;induction r generalizing G n with
  |zero=>
   intro i q cs hc hq hf;unfold kY;rcases hq with⟨h0,hq⟩|hq
   ·have:cs=[]:=List.length_eq_zero_iff.1 (by omega)
    subst this;rw[show cP (l.length:Int) q []=[] by unfold cP;rw[if_pos (by simp)]]
    refine Z4 λG1 j1 _ _=>?_
    exact Safe.ret λ_ _ _ _ _ h=>by simp at h
   ·refine CA (r:=.inner cs.length p) ⟨by omega,l.length,q,cs,rfl,rfl,by omega,λi hi=>.inr (hf i (by omega))⟩ (λG1 j1 _ _=>Safe.ret λ_ _ _ _ _ h=>by simp at h) λG1 z j1 l1 _ ma=>?_
    exact Safe.ret λG2 m2 l2 _ _ _=>(ma.fit (by omega) λi hi=>(hf i (by omega)).Tw).mono l2.le
  |succ r ih=>
   intro i q cs hc hq hf;unfold kY;refine Safe.bind ((hT _ (p++[i])).wk λj x G1 _ g1 hx=>?_)
   cases hb:x.2 with
   |false=>exact Safe.ret λ_ _ _ _ _ h=>by simp at h
   |true=>
    rw[if_neg (by decide)]
    refine ih (i+1) _ _ (by simp[hc]) ?_ ?_
    ·rcases hq with⟨rfl,rfl⟩|hq
     ·exact .inr rfl
     ·refine .inr ?_;rw[if_pos (by omega)];simp;omega
    ·intro k hk;by_cases e:k=i
     ·subst e;simp only[List.getD_eq_getElem?_getD];rw[List.getElem?_append_right (by omega)]
      simp[hc];exact hx hb
     ·simp only[List.getD_eq_getElem?_getD];rw[List.getElem?_append_left (by omega)]
      have:=(hf k (by omega)).mono g1
      simpa only[List.getD_eq_getElem?_getD] using this
 have hT: ∀f,∀{G:Ga} {n:Nat} (l:PL) (p:List Nat),Safe t n (iu f l) G λ_ x G'=>x.2=true→da G' p x.1:=by
  intro f;induction f with
  |zero=>
   intro G n l p;unfold iu;exact Safe.ret λ_ _ _ _ _ h=>by simp at h
  |succ f ih=>
   intro G n l p
   match l with
   | []=>
    unfold iu;refine CA (r:=.empty) rfl (λG1 j1 _ _=>Safe.ret λ_ _ _ _ _ h=>by simp at h) λG1 z j1 l1 _ ma=>?_
    exact Safe.ret λ_ _ g _ _ _=>⟨(nZ.fI (by omega) ma.pos ma.ty).mono g.le,.inl (ik (by omega) ma.pos)⟩
   | [kv]=>
    unfold iu;refine CA (r:=.leaf) rfl (λG1 j1 _ _=>Safe.ret λ_ _ _ _ _ h=>by simp at h) λG1 z j1 l1 _ ma=>?_
    exact Safe.ret λ_ _ g _ _ _=>⟨(nZ.fI (by omega) ma.pos ma.ty).mono g.le,.inr (.inl (ik (by omega) ma.pos))⟩
   |a::b::l=>
    unfold iu;exact hL f ih _ p _ 0 [] [] rfl (.inl ⟨rfl,rfl⟩) λj hj=>by omega
 exact⟨hT f,hL f (hT f)⟩
theorem yR {f:Nat}(l:PL)(p:List Nat):Safe t n (iu f l) G λ_ x G'=>x.2=true→da G' p x.1:=(La f).1 l p
end Go.Proofs.YtgfgglponbmgmaaGreatA.Y
end
section
namespace Go.Proofs.YtgfgglponbmgmaaGreat.Fun
open Go Go.RowKit Go.Proofs.YtgfgglponbmgmaaGreatA.Am
set_option maxRecDepth 10000
section
open Go.Proofs.YtgfgglponbmgmaaGreatA
variable {G:ae} {H H':aa} {o o':aj} {p:Nat} {K:aa→aj→Prop} {st LV s1:Y.St} {α β:Type}
theorem RT (x:Int):IntKind.u64.wrap x=x%18446744073709551616:=by simp[IntKind.wrap,IntKind.bits,IntKind.signed]
theorem F0 {x:Int}(h:0≤x∧x<18446744073709551616):IntKind.u64.wrap x=x:=by rw[RT];omega
theorem acu {x:Int}(h0:0≤x)(h1:x<2^63):Go.bits .and .i64 x 1=x%2:=
 bits_mask .i64 63 (by decide) (λn _ h=>by rw[IntKind.wrap_i64];omega) 1 (by decide) x h0 h1
theorem acv (t:TypeId)(a b:Int):ai Tryz.prog .eql t (uv a) (uv b)=some (.bool (decide (a=b))):=by
 show some (Value.bool (a==b))=_
 congr 2
theorem Z8 (t:TypeId)(a b:Int):ai Tryz.prog .geq t (uv a) (uv b)=some (.bool (decide (a≥b))):=rfl
theorem TE (a b:Int):aE (run G) 162 [cv a,cv b] H (Is H (uv (Y.uT a b))):=by
 refine Ev.up (t:=λn=>Nn (run G n) n (cv a) (cv b) H) ?_ λn=>Hg ..
 simp -implicitDefEqProofs only[Nn,sS,Nat.reduceAdd,RM,uU];refine Ev.lss (λh1=>?_) (λh1=>?_)<;>try simp -implicitDefEqProofs only[sS,Nat.reduceAdd,RM,uU]
 ·exact Ev.ret ⟨by simp[Y.uT,h1],rfl⟩
 ·refine Ev.ret ⟨?_,rfl⟩;refine congrArg uv ?_;rw[RT,RT,RT];unfold Y.uT;rw[if_neg (by omega)];omega
theorem CB (a b:Int):0≤Y.uT a b∧Y.uT a b<18446744073709551616:=by unfold Y.uT;split<;>omega
theorem RU {a b:Int}(c:Int)(ha:0≤a∧a<18446744073709551616)(hb:0≤b∧b<18446744073709551616):aE (run G) 161 [uv a,uv b,cv c] H (Is H (cv (Y.kf a b c))):=by
 refine Ev.up (t:=λn=>MX (run G n) n (uv a) (uv b) (cv c) H) ?_ λn=>GS ..
 simp -implicitDefEqProofs only[MX,sS,Nat.reduceAdd,acv];by_cases h0:b=0
 ·simp -implicitDefEqProofs only[h0,decide_true,sS,Nat.reduceAdd];exact Ev.ret ⟨by simp[Y.kf],rfl⟩
 simp -implicitDefEqProofs only[h0,decide_false,sS,Nat.reduceAdd];refine Ev.lss (λh1=>?_) (λh1=>?_)<;>try simp -implicitDefEqProofs only[sS,Nat.reduceAdd]
 ·exact Ev.ret ⟨by simp[Y.kf,h1],rfl⟩
 refine Ev.gtr (λh2=>?_) (λh2=>?_)<;>try simp -implicitDefEqProofs only[sS,Nat.reduceAdd,ZO]
 ·exact Ev.ret ⟨by simp[Y.kf,h2],rfl⟩
 have hS:Y.kf a b c=Y.cl (if b<a then b else a) b c 17 0 0:=by
  unfold Y.kf;rw[if_neg (by omega)]
  congr 1;split<;>split<;>omega
 have hr:0≤(if b<a then b else a)∧(if b<a then b else a)≤b:=by split<;>omega
 rw[hS];generalize (if b<a then b else a)=r0 at hr
 refine Ev.loop (k:=17) (λk vs Hx=>∃(q r:Int) (d24 d33 d49 d54:Value),Hx=H∧k≤17∧0≤r∧r<b∧0≤q∧q+2≤2*2^(17-k)∧Y.cl r0 b c k q r=Y.cl r0 b c 17 0 0∧vs=[uv r0,uv b,cv c,cv 0,.bool false,cv ((k:Int)-1),d24,cv q,uv r,d33,d49,d54])
  (λr=>r.1= .exit 0∧r.2.2=H∧∃(d8 d9 d24 d33 d49 d54:Value),r.2.1=[uv r0,uv b,cv c,cv 0,.bool false,d9,d24,cv (Y.cl r0 b c 17 0 0),d8,d33,d49,d54]) ⟨0,0,_,_,_,_,rfl,by omega,by omega,by omega,by omega,by decide,rfl,rfl⟩ ?_ ?_
 ·rintro k vs Hx ⟨q,r,d24,d33,d49,d54,rfl,hk,r0',r1',q0,q1,hE,rfl⟩;simp -implicitDefEqProofs only[Ay,rQ,sS,Nat.reduceAdd];refine Ev.geq (λhq=>?_) (λhq=>?_)<;>try simp -implicitDefEqProofs only[sS,Nat.reduceAdd,uU]
  ·obtain⟨j,rfl⟩: ∃j,k=j+1:=⟨k-1,by omega⟩
   have eb:((j+1:Nat):Int)-1=(j:Int):=by omega
   have hw:IntKind.i64.wrap ((j:Int)-1)=(j:Int)-1:=fL (by omega)
   have qb:q+2≤262144:=by
    have:(2:Int)^(17-(j+1))≤65536:=by
     have h:2^(17-(j+1))≤2^16:=Nat.pow_le_pow_right (by decide) (by omega)
     have e:((2^(17-(j+1)):Nat):Int)=2^(17-(j+1)):=Int.natCast_pow 2 _;have h2:(2:Nat)^16=65536:=by decide
     omega
    omega
   have qn: ∀q',q'≤2*q+2→q'+2≤2*2^(17-j):=by
    intro q' h;have:(2:Int)^(17-j)=2^(17-(j+1))*2:=by
     rw[←Int.pow_succ];congr 1;omega
    omega
   have iJ: ∀(q r:Int) (d24 d33 d49 d54:Value),0≤r→r<b→0≤q→q+2≤2*2^(17-j)→Y.cl r0 b c j q r=Y.cl r0 b c 17 0 0→Ev (λn=>adU (run G n) n [uv r0,uv b,cv c,cv 0,.bool false,cv ((j+1:Nat)-1),d24,cv q,uv r,d33,d49,d54] Hx) λr=>(r.1= .normal∧∃k',k'<j+1∧∃(q r':Int) (d24 d33 d49 d54:Value),r.2.2=Hx∧k'≤17∧0≤r'∧r'<b∧0≤q∧q+2≤2*2^(17-k')∧Y.cl r0 b c k' q r'=Y.cl r0 b c 17 0 0∧r.2.1=[uv r0,uv b,cv c,cv 0,.bool false,cv ((k':Int)-1),d24,cv q,uv r',d33,d49,d54])∨(r.1≠ .normal∧(r.1= .exit 0∧r.2.2=Hx∧∃(d8 d9 d24 d33 d49 d54:Value),r.2.1=[uv r0,uv b,cv c,cv 0,.bool false,d9,d24,cv (Y.cl r0 b c 17 0 0),d8,d33,d49,d54])):=by
    intro q r d24 d33 d49 d54 a1 a2 a3 a4 a5;simp -implicitDefEqProofs only[Aw,rN,sS,Nat.reduceAdd,eb,hw];exact Ev.ret (.inl ⟨rfl,j,by omega,q,r,_,_,_,_,rfl,by omega,a1,a2,a3,a4,a5,rfl⟩)
   have hc:c/2^j=c.fdiv (2^min ((j:Int)).toNat 64):=by
    have:min ((j:Int)).toNat 64=j:=by omega
    rw[this,Int.fdiv_eq_ediv_of_nonneg _ (by exact Int.le_of_lt (Int.pow_pos (by decide)))]
   have hcb:0≤c/2^j∧c/2^j≤65536:=by
    have hp:(0:Int)<2^j:=Int.pow_pos (by decide)
    have h1:0≤c/2^j:=Int.ediv_nonneg (by omega) (by omega)
    have h2:c/2^j≤c:=Int.ediv_le_self _ (by omega)
    omega
   have h2: ∀(q r:Int) (d24 d33 d49 d54:Value),0≤r→r<b→0≤q→q+1≤262144*2→(∀q',q'≤q+1→q'+2≤2*2^(17-j))→
     (if c/2^j%2=0 then Y.cl r0 b c j q r else if r0≥b-r then Y.cl r0 b c j (q+1) (r-(b-r0)) else Y.cl r0 b c j q (r+r0))=Y.cl r0 b c 17 0 0→
     Ev (λn=>rP (run G n) n [uv r0,uv b,cv c,cv 0,.bool false,cv ((j+1:Nat)-1),d24,cv q,uv r,d33,d49,d54] Hx) λr=>(r.1= .normal∧∃k',k'<j+1∧∃(q r':Int) (d24 d33 d49 d54:Value),r.2.2=Hx∧k'≤17∧0≤r'∧r'<b∧0≤q∧q+2≤2*2^(17-k')∧Y.cl r0 b c k' q r'=Y.cl r0 b c 17 0 0∧r.2.1=[uv r0,uv b,cv c,cv 0,.bool false,cv ((k':Int)-1),d24,cv q,uv r',d33,d49,d54])∨(r.1≠ .normal∧(r.1= .exit 0∧r.2.2=Hx∧∃(d8 d9 d24 d33 d49 d54:Value),r.2.1=[uv r0,uv b,cv c,cv 0,.bool false,d9,d24,cv (Y.cl r0 b c 17 0 0),d8,d33,d49,d54])):=by
    intro q r d24 d33 d49 d54 a1 a2 a3 a4 a5 a6;simp -implicitDefEqProofs only[Ax,rO,sS,Nat.reduceAdd,eb,Ob j (by omega),ZP,Cp, ←hc,acu hcb.1 (by omega)]
    refine Ev.eql (λhq=>?_) (λhq=>?_)<;>try simp -implicitDefEqProofs only[sS,Nat.reduceAdd,uU,Z8]
    ·rw[if_pos hq] at a6;have:=iJ q r d24 d33 (.bool true) d54 a1 a2 a3 (a5 q (by omega)) a6
     rw[eb] at this;exact this
    rw[if_neg hq] at a6;have e1:IntKind.u64.wrap (b-r)=b-r:=F0 (by omega)
    rw[e1];refine Ev.brD (λh3=>?_) (λh3=>?_)<;>try simp -implicitDefEqProofs only[sS,Nat.reduceAdd,uU,RL]
    ·rw[if_pos h3] at a6;have e2:IntKind.i64.wrap (q+1)=q+1:=fL (by omega)
     have e3:IntKind.u64.wrap (r-IntKind.u64.wrap (b-r0))=r-(b-r0):=by rw[F0 (x:=b-r0) (by omega),F0 (by omega)]
     rw[e2,e3];have:=iJ (q+1) (r-(b-r0)) d24 d33 (.bool false) (.bool (decide (r0≥b-r))) (by omega) (by omega) (by omega) (a5 _ (by omega)) a6
     rw[eb] at this;exact this
    ·rw[if_neg h3] at a6;have e3:IntKind.u64.wrap (r+r0)=r+r0:=F0 (by omega)
     rw[e3];have:=iJ q (r+r0) d24 d33 (.bool false) (.bool (decide (r0≥b-r))) (by omega) (by omega) a3 (a5 q (by omega)) a6
     rw[eb] at this;exact this
   have SX:(let q1:=if r≥b-r then 2*q+1 else 2*q
    let r1:=if r≥b-r then r-(b-r) else r+r
    if c/2^j%2=0 then Y.cl r0 b c j q1 r1 else if r0≥b-r1 then Y.cl r0 b c j (q1+1) (r1-(b-r0)) else Y.cl r0 b c j q1 (r1+r0))=Y.cl r0 b c 17 0 0:=hE
   have e0:IntKind.i64.wrap (2*q)=2*q:=fL (by omega)
   have e1:IntKind.u64.wrap (b-r)=b-r:=F0 (by omega)
   simp -implicitDefEqProofs only[Z8,e1,e0,sS,Nat.reduceAdd];refine Ev.brD (λh3=>?_) (λh3=>?_)<;>try simp -implicitDefEqProofs only[sS,Nat.reduceAdd,uU,RL]
   ·have e2:IntKind.i64.wrap (2*q+1)=2*q+1:=fL (by omega)
    have e3:IntKind.u64.wrap (r-(b-r))=r-(b-r):=F0 (by omega)
    simp only[e0,e1,e2,e3];simp only[if_pos h3] at SX;exact h2 _ _ _ _ _ _ (by omega) (by omega) (by omega) (by omega) (λq' h=>qn q' (by omega)) SX
   ·have e3:IntKind.u64.wrap (r+r)=r+r:=F0 (by omega)
    simp only[e0,e3];simp only[if_neg h3] at SX;exact h2 _ _ _ _ _ _ (by omega) (by omega) (by omega) (by omega) (λq' h=>qn q' (by omega)) SX
  ·have:k=0:=by omega
   subst this;rw[←hE];exact Ev.ret (.inr ⟨by simp,rfl,rfl,_,_,_,_,_,_,rfl⟩)
 ·rintro e vs Hx ⟨he,rfl,d8,d9,d24,d33,d49,d54,rfl⟩;simp only at he;subst he;simp -implicitDefEqProofs only[Az,rR,sS,Nat.reduceAdd];exact Ev.ret ⟨rfl,rfl⟩
theorem Oq {a b c:Int}(ha:0≤a)(hb:0≤b)(hc:1≤c):Y.kf a b c≤c:=Y.AS ha hb hc
theorem RV (a b c d:Int):aE (run G) 143 [cv a,cv b,cv c,cv d] H (Is H (cv (Y.ig a b c d))):=by
 refine Ev.up (t:=λn=>Nx (run G n) n (cv a) (cv b) (cv c) (cv d) H) ?_ λn=>Hw ..
 simp -implicitDefEqProofs only[Nx,sS,Nat.reduceAdd];repeat' (first| (refine Ev.ret ⟨?_,rfl⟩;refine congrArg cv ?_;unfold Y.ig;rw[if_pos (by omega)];done)| ((with_reducible first|refine Ev.lss (λhq=>?_) (λhq=>?_)|refine Ev.gtr (λhq=>?_) (λhq=>?_)|refine Ev.geq (λhq=>?_) (λhq=>?_))<;>try simp -implicitDefEqProofs only[sS,Nat.reduceAdd]))
 all_goals
  refine Ev.is (TE _ _) ?_;refine Ev.is (TE _ _) ?_
  try simp -implicitDefEqProofs only[sS,Nat.reduceAdd]
  have e1:IntKind.i64.wrap (d-1)=d-1:=fL (by omega)
  rw[e1];refine Ev.is (RU _ (CB _ _) (CB _ _)) ?_
  try simp -implicitDefEqProofs only[sS,Nat.reduceAdd]
  refine Ev.ret ⟨?_,rfl⟩;refine congrArg cv ?_;unfold Y.ig;rw[if_neg (by omega)]
  have g1:=(CB a c).1;have g2:=(CB a b).1;have:=Oq (c:=d-1) g1 g2 (by omega)
  have:=Y.K9 (part:=Y.uT a c) (whole:=Y.uT a b) (N:=d-1)
  rw[fL (by omega)]
theorem Lb {n k i:Int}{f:Nat}{s:Y.St}{g:Int→Y.Tr β}(h:s.off=true∨¬i>1):Y.ah (Y.mF n k f i >>= g) s=Y.ah (g 1) s:=by
 cases f with
 |zero=>rfl
 |succ f=>
  rw[Y.ak];unfold Y.mF;by_cases h1:i>1
  ·rw[if_pos h1];have h2:=h.resolve_right (λx=>x h1)
   simp only[Y.ak,bk,bH,bL,cR,cS,ne_eq,not_true_eq_false,not_false_eq_true,if_true,if_false,Bool.not_true,Bool.not_false,true_and,and_true,false_and,and_false,true_or,or_true,false_or,or_false,Bool.false_eq_true,decide_true,decide_false,h2]
  ·rw[if_neg h1];rfl
theorem Ot {n k i:Int}{f:Nat}{s:Y.St}{g:Int→Y.Tr β}(h:s.off=false)(h1:i>1):Y.ah (Y.mF n k (f+1) i >>= g) s=Y.ah (Y.rd (Y.lC n i) >>= λz=>(if z≤k then pure i else Y.mF n k f (i-1)) >>= g) s:=by
 rw[Y.ak]
 conv=>lhs;unfold Y.mF
 rw[if_pos h1];simp only[Y.ak,bk,bH,bL,cR,cS,ne_eq,not_true_eq_false,not_false_eq_true,if_true,if_false,Bool.not_true,Bool.not_false,true_and,and_true,false_and,and_false,true_or,or_true,false_or,or_false,Bool.false_eq_true,decide_true,decide_false,h]
theorem RW {n k m i:Int}{f:Nat}{s:Y.St}{g:Int→Y.Tr β}(h:s.off=true∨¬i<m):Y.ah (Y.KY n k m f i >>= g) s=Y.ah (g (m-1)) s:=by
 cases f with
 |zero=>rfl
 |succ f=>
  rw[Y.ak];unfold Y.KY;by_cases h1:i<m
  ·rw[if_pos h1];have h2:=h.resolve_right (λx=>x h1)
   simp only[Y.ak,bk,bH,bL,cR,cS,ne_eq,not_true_eq_false,not_false_eq_true,if_true,if_false,Bool.not_true,Bool.not_false,true_and,and_true,false_and,and_false,true_or,or_true,false_or,or_false,Bool.false_eq_true,decide_true,decide_false,h2]
  ·rw[if_neg h1];rfl
theorem Xb {n k m i:Int}{f:Nat}{s:Y.St}{g:Int→Y.Tr β}(h:s.off=false)(h1:i<m):Y.ah (Y.KY n k m (f+1) i >>= g) s=Y.ah (Y.rd (Y.lC n i) >>= λz=>(if z>k then pure (i-1) else Y.KY n k m f (i+1)) >>= g) s:=by
 rw[Y.ak]
 conv=>lhs;unfold Y.KY
 rw[if_pos h1];simp only[Y.ak,bk,bH,bL,cR,cS,ne_eq,not_true_eq_false,not_false_eq_true,if_true,if_false,Bool.not_true,Bool.not_false,true_and,and_true,false_and,and_false,true_or,or_true,false_or,or_false,Bool.false_eq_true,decide_true,decide_false,h]
theorem F1 (h:JX K p st H){a k d z:Int}{f:Nat}{i:Int}(hz:2≤z∧z≤65536)(hi:0≤i∧i≤65536)(hf:st.left≤f){t:Y.Tr (Int×Int)}{Ou:Y.St}(E:Y.ah t Ou=Y.ah (Y.mF a k f i >>= λi=>pure (d,i)) st){x6 x7 bl aC bS bR aO cL aN dz fC iM fD aM F6 fP:Value}:
  Ev (λn=>cd (iter n (vp (run G n) n) [pv p,cv a,cv k,x6,x7,cv d,cv z,bl,aC,bS,bR,aO,cL,aN,dz,fC,(cv i),iM,fD,aM,F6,fP] H) (dG 0 (dM (vq (run G n) n) (dM (Ch (run G n) n) (dX Tryz.prog [.tmp 6,.tmp 7] [0,1,2,6,7,8,9,21,10,29,32,11,41,12,56,68,13,79,88,14,103,112]))))) λr=>jW K p Ou t r.1 r.2:=by
 refine Ev.loop (k:=st.left) (λk' vs Hx=>∃(i:Int) (sx:Y.St) (f:Nat) (x6 x7 bl aC bS bR aO cL aN dz fC iM fD aM F6 fP:Value),vs=[pv p,cv a,cv k,x6,x7,cv d,cv z,bl,aC,bS,bR,aO,cL,aN,dz,fC,cv i,iM,fD,aM,F6,fP]∧JX K p sx Hx∧k'=sx.left∧sx.left≤f∧(0≤i∧i≤65536)∧Y.ah t Ou=Y.ah (Y.mF a k f i >>= λi=>pure (d,i)) sx)
  (λr=>∃(sx:Y.St) (u:Int),JX K p sx r.2.2∧Y.ah t Ou=((d,u),sx)∧((r.1= .exit 0∧u=1)∨(r.1= .ret∧r.2.1[3]? =some (cv d)∧r.2.1[4]? =some (cv u)))∧∃(x6 x7 bl aC bS bR aO cL aN dz fC aI iM fD aM F6 fP:Value),r.2.1=[pv p,cv a,cv k,x6,x7,cv d,cv z,bl,aC,bS,bR,aO,cL,aN,dz,fC,aI,iM,fD,aM,F6,fP]) ⟨i,st,f,_,_,_,_,_,_,_,_,_,_,_,_,_,_,_,_,rfl,h,rfl,hf,hi,E⟩ ?_ ?_
 ·rintro k' vs Hx ⟨i,sx,f,x6,x7,bl,aC,bS,bR,aO,cL,aN,dz,fC,iM,fD,aM,F6,fP,rfl,hj,rfl,hf,hi,E⟩;simp -implicitDefEqProofs only[AB,rW,sS,Nat.reduceAdd];have out:(sx.off=true∨¬i>1)→Y.ah t Ou=((d,1),sx):=by
   intro hn;rw[E,Lb hn];rfl
  refine Ev.gtr (λh1=>?_) (λh1=>?_)<;>try simp -implicitDefEqProofs only[sS,Nat.reduceAdd]
  ·refine Ev.nW hj (λhq=>?_) (λhq=>?_)<;>try simp -implicitDefEqProofs only[sS,Nat.reduceAdd]
   ·exact Ev.ret (.inr ⟨by simp,sx,_,hj,out (.inl hq),.inl ⟨rfl,rfl⟩,_,_,_,_,_,_,_,_,_,_,_,_,_,_,_,_,_,rfl⟩)
   refine Ev.is (pB _ _) ?_;refine Ev.eS (cX hj _) λq s1 H1 e1 fv=>?_
   have l1:=dj e1;have l2:=iE hq;obtain⟨fy,rfl⟩: ∃fy,f=fy+1:=⟨f-1,by omega⟩
   rw[Ot hq h1,Y.ak,e1] at E
   try simp -implicitDefEqProofs only[sS,Nat.reduceAdd]
   refine Ev.leq (λh2=>?_) (λh2=>?_)<;>try simp -implicitDefEqProofs only[sS,Nat.reduceAdd]
   ·try rw[fL (x:=i-1) (by omega)]
    refine Ev.ret (.inr ⟨by simp,s1,i,fv,?_,.inr ⟨rfl,rfl,rfl⟩,_,_,_,_,_,_,_,_,_,_,_,_,_,_,_,_,_,rfl⟩)
    rw[E];simp only[if_pos h2,Y.ak,bk,bH,bL,cR,cS,ne_eq,not_true_eq_false,not_false_eq_true,if_true,if_false,Bool.not_true,Bool.not_false,true_and,and_true,false_and,and_false,true_or,or_true,false_or,or_false,Bool.false_eq_true,decide_true,decide_false]
   ·rw[fL (x:=i-1) (by omega)]
    refine Ev.ret (.inl ⟨rfl,s1.left,by omega,i-1,s1,fy,_,_,_,_,_,_,_,_,_,_,_,_,_,_,_,_,rfl,fv,rfl,by omega,by omega,?_⟩)
    rw[E];simp only[if_neg h2]
  ·exact Ev.ret (.inr ⟨by simp,sx,_,hj,out (.inr h1),.inl ⟨rfl,rfl⟩,_,_,_,_,_,_,_,_,_,_,_,_,_,_,_,_,_,rfl⟩)
 ·rintro e vs H1 ⟨sx,u,hj,E,hu,x6,x7,bl,aC,bS,bR,aO,cL,aN,dz,fC,aI,iM,fD,aM,F6,fP,hv⟩;simp only at hv hu hj;subst hv;rcases hu with⟨rfl,rfl⟩|⟨rfl,e1,e2⟩
  ·simp -implicitDefEqProofs only[AD,rX,sS,Nat.reduceAdd];exact Ev.ret (jW.of hj E)
  ·simp only[List.getElem?_cons_succ,List.getElem?_cons_zero,Option.some.injEq] at e1 e2;subst e1 e2;show Ev (λ_=>some (Value.tuple #[cv d,cv u],H1)) _
   exact Ev.ret (jW.of hj E)
theorem Eg (h:JX K p st H){a k d z:Int}{f:Nat}{i:Int}(hz:2≤z∧z≤65536)(hi:1≤i∧i≤65537)(hf:st.left≤f){t:Y.Tr (Int×Int)}{Ou:Y.St}(E:Y.ah t Ou=Y.ah (Y.KY a k z f i >>= λi=>pure (d,i)) st){x6 x7 bl aC bS bR aO cL aN dz fC aI iM fD F6 fP:Value}:
  Ev (λn=>cd (iter n (vr (run G n) n) [pv p,cv a,cv k,x6,x7,cv d,cv z,bl,aC,bS,bR,aO,cL,aN,dz,fC,aI,iM,fD,(cv i),F6,fP] H) (dG 2 (dM (vt (run G n) n) (dX Tryz.prog [.tmp 6,.tmp 7] [0,1,2,6,7,8,9,21,10,29,32,11,41,12,56,68,13,79,88,14,103,112])))) λr=>jW K p Ou t r.1 r.2:=by
 refine Ev.loop (k:=st.left) (λk' vs Hx=>∃(i:Int) (sx:Y.St) (f:Nat) (x6 x7 bl aC bS bR aO cL aN dz fC aI iM fD F6 fP:Value),vs=[pv p,cv a,cv k,x6,x7,cv d,cv z,bl,aC,bS,bR,aO,cL,aN,dz,fC,aI,iM,fD,cv i,F6,fP]∧JX K p sx Hx∧k'=sx.left∧sx.left≤f∧(1≤i∧i≤65537)∧Y.ah t Ou=Y.ah (Y.KY a k z f i >>= λi=>pure (d,i)) sx)
  (λr=>∃(sx:Y.St) (u:Int),JX K p sx r.2.2∧Y.ah t Ou=((d,u),sx)∧((r.1= .exit 2∧u=z-1)∨(r.1= .ret∧r.2.1[3]? =some (cv d)∧r.2.1[4]? =some (cv u)))∧∃(x6 x7 bl aC bS bR aO cL aN dz fC aI iM fD aM F6 fP:Value),r.2.1=[pv p,cv a,cv k,x6,x7,cv d,cv z,bl,aC,bS,bR,aO,cL,aN,dz,fC,aI,iM,fD,aM,F6,fP]) ⟨i,st,f,_,_,_,_,_,_,_,_,_,_,_,_,_,_,_,_,rfl,h,rfl,hf,hi,E⟩ ?_ ?_
 ·rintro k' vs Hx ⟨i,sx,f,x6,x7,bl,aC,bS,bR,aO,cL,aN,dz,fC,aI,iM,fD,F6,fP,rfl,hj,rfl,hf,hi,E⟩;simp -implicitDefEqProofs only[AE,rY,sS,Nat.reduceAdd];have out:(sx.off=true∨¬i<z)→Y.ah t Ou=((d,z-1),sx):=by
   intro hn;rw[E,RW hn];rfl
  refine Ev.lss (λh1=>?_) (λh1=>?_)<;>try simp -implicitDefEqProofs only[sS,Nat.reduceAdd]
  ·refine Ev.nW hj (λhq=>?_) (λhq=>?_)<;>try simp -implicitDefEqProofs only[sS,Nat.reduceAdd]
   ·exact Ev.ret (.inr ⟨by simp,sx,_,hj,out (.inl hq),.inl ⟨rfl,rfl⟩,_,_,_,_,_,_,_,_,_,_,_,_,_,_,_,_,_,rfl⟩)
   refine Ev.is (pB _ _) ?_;refine Ev.eS (cX hj _) λq s1 H1 e1 fv=>?_
   have l1:=dj e1;have l2:=iE hq;obtain⟨fy,rfl⟩: ∃fy,f=fy+1:=⟨f-1,by omega⟩
   rw[Xb hq h1,Y.ak,e1] at E
   try simp -implicitDefEqProofs only[sS,Nat.reduceAdd]
   refine Ev.gtr (λh2=>?_) (λh2=>?_)<;>try simp -implicitDefEqProofs only[sS,Nat.reduceAdd]
   ·try rw[fL (x:=i-1) (by omega)]
    refine Ev.ret (.inr ⟨by simp,s1,i-1,fv,?_,.inr ⟨rfl,rfl,rfl⟩,_,_,_,_,_,_,_,_,_,_,_,_,_,_,_,_,_,rfl⟩)
    rw[E];simp only[if_pos h2,Y.ak,bk,bH,bL,cR,cS,ne_eq,not_true_eq_false,not_false_eq_true,if_true,if_false,Bool.not_true,Bool.not_false,true_and,and_true,false_and,and_false,true_or,or_true,false_or,or_false,Bool.false_eq_true,decide_true,decide_false]
   ·rw[fL (x:=i+1) (by omega)]
    refine Ev.ret (.inl ⟨rfl,s1.left,by omega,i+1,s1,fy,_,_,_,_,_,_,_,_,_,_,_,_,_,_,_,_,rfl,fv,rfl,by omega,by omega,?_⟩)
    rw[E];simp only[if_neg h2]
  ·exact Ev.ret (.inr ⟨by simp,sx,_,hj,out (.inr h1),.inl ⟨rfl,rfl⟩,_,_,_,_,_,_,_,_,_,_,_,_,_,_,_,_,_,rfl⟩)
 ·rintro e vs H1 ⟨sx,u,hj,E,hu,x6,x7,bl,aC,bS,bR,aO,cL,aN,dz,fC,aI,iM,fD,aM,F6,fP,hv⟩;simp only at hv hu hj;subst hv;rcases hu with⟨rfl,rfl⟩|⟨rfl,e1,e2⟩
  ·simp -implicitDefEqProofs only[AF,rZ,sS,Nat.reduceAdd];rw[fL (x:=z-1) (by omega)]
   exact Ev.ret (jW.of hj E)
  ·simp only[List.getElem?_cons_succ,List.getElem?_cons_zero,Option.some.injEq] at e1 e2;subst e1 e2;show Ev (λ_=>some (Value.tuple #[cv d,cv u],H1)) _
   exact Ev.ret (jW.of hj E)
theorem Lc {a b c m:Int}(h: ¬Y.ig a b c m<1):2≤m∧m≤65536∧Y.ig a b c m≤m:=by
 have h1:2≤m∧m≤65536:=by
  refine Decidable.byContradiction λhn=>h ?_
  unfold Y.ig;rw[if_pos (by omega)];decide
 exact⟨h1.1,h1.2,Y.Ec h1.1⟩
theorem RX (h:JX K p st H){f:Nat}(hf:st.left≤f)(a k:Int):aE (run G) 117 [pv p,cv a,cv k] H (jW K p st (Y.kW f a k)):=by
 refine Ev.up (t:=λn=>NN (run G n) n (pv p) (cv a) (cv k) H) ?_ λn=>HI ..
 simp -implicitDefEqProofs only[NN,sS,Nat.reduceAdd];refine Ev.eS (cX h a) λd s1 H1 e1 fv=>?_
 try simp -implicitDefEqProofs only[sS,Nat.reduceAdd,cI]
 refine Ev.lss (λh1=>?_) (λh1=>?_)<;>try simp -implicitDefEqProofs only[sS,Nat.reduceAdd,cI]
 ·refine Ev.ret (jW.of fv ?_);simp only[Y.kW,Y.ak,bk,bH,bL,cR,cS,ne_eq,not_true_eq_false,not_false_eq_true,if_true,if_false,Bool.not_true,Bool.not_false,true_and,and_true,false_and,and_false,true_or,or_true,false_or,or_false,Bool.false_eq_true,decide_true,decide_false, *]
 refine Ev.is (pB _ _) ?_;refine Ev.eS (cX fv _) λq2 s2 H2 e2 fH=>?_
 try simp -implicitDefEqProofs only[sS,Nat.reduceAdd,cI]
 refine Ev.lss (λh2=>?_) (λh2=>?_)<;>try simp -implicitDefEqProofs only[sS,Nat.reduceAdd,cI]
 ·refine Ev.ret (jW.of fH ?_);simp only[Y.kW,Y.ak,bk,bH,bL,cR,cS,ne_eq,not_true_eq_false,not_false_eq_true,if_true,if_false,Bool.not_true,Bool.not_false,true_and,and_true,false_and,and_false,true_or,or_true,false_or,or_false,Bool.false_eq_true,decide_true,decide_false, *]
 refine Ev.eql (λh3=>?_) (λh3=>?_)<;>try simp -implicitDefEqProofs only[sS,Nat.reduceAdd,cI]
 ·refine Ev.ret (jW.of fH ?_);simp only[Y.kW,Y.ak,bk,bH,bL,cR,cS,ne_eq,not_true_eq_false,not_false_eq_true,if_true,if_false,Bool.not_true,Bool.not_false,true_and,and_true,false_and,and_false,true_or,or_true,false_or,or_false,Bool.false_eq_true,decide_true,decide_false, *];simp only[Int.lt_irrefl,if_false,if_true,e2,h2,Y.ak,bk,bH,bL,cR,cS,ne_eq,not_true_eq_false,not_false_eq_true,if_true,if_false,Bool.not_true,Bool.not_false,true_and,and_true,false_and,and_false,true_or,or_true,false_or,or_false,Bool.false_eq_true,decide_true,decide_false]
 refine Ev.is (pB _ _) ?_;refine Ev.eS (cX fH _) λq3 s3 H3 e3 gA=>?_
 try simp -implicitDefEqProofs only[sS,Nat.reduceAdd,cI]
 refine Ev.geq (λh4=>?_) (λh4=>?_)<;>try simp -implicitDefEqProofs only[sS,Nat.reduceAdd,cI]
 ·refine Ev.ret (jW.of gA ?_);simp only[Y.kW,Y.ak,bk,bH,bL,cR,cS,ne_eq,not_true_eq_false,not_false_eq_true,if_true,if_false,Bool.not_true,Bool.not_false,true_and,and_true,false_and,and_false,true_or,or_true,false_or,or_false,Bool.false_eq_true,decide_true,decide_false, *]
 refine Ev.is (RV _ _ _ _) ?_
 try simp -implicitDefEqProofs only[sS,Nat.reduceAdd,cI]
 have B:Y.ah (Y.kW f a k) st=Y.ah (if s3.off=true∨Y.ig q2 q3 k (Y.wr (d-1))<1 then pure (d,0) else do
   let down ←(if Y.ig q2 q3 k (Y.wr (d-1))>1 then do
     let z ←Y.rd (Y.lC a (Y.ig q2 q3 k (Y.wr (d-1))))
     pure (decide (z>k))
    else pure false)
   if down then
    let i ←Y.mF a k f (Y.ig q2 q3 k (Y.wr (d-1))-1)
    pure (d,i)
   else
    let i ←Y.KY a k (Y.wr (d-1)) f (Y.ig q2 q3 k (Y.wr (d-1))+1)
    pure (d,i)) s3:=by
  simp only[Y.kW,Y.ak,bk,bH,bL,cR,cS,ne_eq,not_true_eq_false,not_false_eq_true,if_true,if_false,Bool.not_true,Bool.not_false,true_and,and_true,false_and,and_false,true_or,or_true,false_or,or_false,Bool.false_eq_true,decide_true,decide_false,h1,h2,h3,h4,e1,e2,e3];rfl
 have l1:=dj e1;have l2:=dj e2;have l3:=dj e3;have gp:=@Lc q2 q3 k (Y.wr (d-1));generalize Y.ig q2 q3 k (Y.wr (d-1))=j at*
 generalize Y.wr (d-1)=m at*
 refine Ev.nW gA (λhq=>?_) (λhq=>?_)<;>try simp -implicitDefEqProofs only[sS,Nat.reduceAdd,cI]
 ·refine Ev.ret (jW.of gA ?_);rw[B,if_pos (.inl hq)];rfl
 refine Ev.lss (λh5=>?_) (λh5=>?_)<;>try simp -implicitDefEqProofs only[sS,Nat.reduceAdd,cI]
 ·refine Ev.ret (jW.of gA ?_);rw[B,if_pos (.inr h5)];rfl
 obtain⟨g1,g2,g3⟩:=gp h5;rw[if_neg (by rw[hq];simp;omega)] at B
 refine Ev.gtr (λh6=>?_) (λh6=>?_)<;>try simp -implicitDefEqProofs only[sS,Nat.reduceAdd,cI]
 ·refine Ev.is (pB _ _) ?_;refine Ev.eS (cX gA _) λq4 s4 H4 e4 iW=>?_
  have l4:=dj e4;rw[if_pos h6] at B;simp only[Y.bind_assoc] at B
  try simp -implicitDefEqProofs only[sS,Nat.reduceAdd,cI]
  refine Ev.gtr (λh7=>?_) (λh7=>?_)<;>try simp -implicitDefEqProofs only[sS,Nat.reduceAdd,cI]
  ·have e5:Y.wr (j-1)=j-1:=by unfold Y.wr;omega
   try rw[e5]
   exact F1 iW (f:=f) (i:=j-1) (z:=m) (d:=d) (a:=a) (k:=k) ⟨g1,g2⟩ (by omega) (by omega) (by rw[B,Y.aJ e4];simp only[h7,decide_true,Y.bind_pure,if_true])
  ·have e5:Y.wr (j+1)=j+1:=by unfold Y.wr;omega
   rw[e5];exact Eg iW (f:=f) (i:=j+1) (z:=m) (d:=d) (a:=a) (k:=k) ⟨g1,g2⟩ (by omega) (by omega) (by rw[B,Y.aJ e4];simp only[h7,decide_false,Y.bind_pure,if_false,Bool.false_eq_true])
 ·have e5:Y.wr (j+1)=j+1:=by unfold Y.wr;omega
  try rw[e5]
  rw[if_neg h6] at B;exact Eg gA (f:=f) (i:=j+1) (z:=m) (d:=d) (a:=a) (k:=k) ⟨g1,g2⟩ (by omega) (by omega) (by rw[B];simp only[Y.bind_pure,if_false,Bool.false_eq_true])
theorem RY (h:JX K p st H){f:Nat}(hf:st.left≤f)(a k:Int):aE (run G) 144 [pv p,cv a,cv k] H (oP K p st (Y.nt f a k)):=by
 refine Ev.up (t:=λn=>M9 (run G n) n (pv p) (cv a) (cv k) H) ?_ λn=>G8 ..
 simp -implicitDefEqProofs only[M9,sS,Nat.reduceAdd];refine Ev.ZN (RX h hf a k) λd c s1 H1 e1 fv=>?_
 try simp -implicitDefEqProofs only[sS,Nat.reduceAdd]
 refine Ev.is (kK _ _ _) ?_
 try simp -implicitDefEqProofs only[sS,Nat.reduceAdd]
 refine Ev.ret (oP.of fv ?_);simp only[Y.nt,Y.ak,bk,bH,bL,cR,cS,ne_eq,not_true_eq_false,not_false_eq_true,if_true,if_false,Bool.not_true,Bool.not_false,true_and,and_true,false_and,and_false,true_or,or_true,false_or,or_false,Bool.false_eq_true,decide_true,decide_false,e1]
end
end Go.Proofs.YtgfgglponbmgmaaGreat.Fun
end
