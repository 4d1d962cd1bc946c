/- Texts of the proof of dcssPlays_holds, put together by a small program of ours (names shortened, spaces taken out). No condition beyond the given statement. -/
import Derived.Test.YtgfgglponbmgmaaGreatDCP12
import Derived.Test.YtgfgglponbmgmaaGreatDCP13
import Derived.Test.YtgfgglponbmgmaaGreatDCP16
import Derived.Test.YtgfgglponbmgmaaGreatDCP39
import Derived.Test.YtgfgglponbmgmaaGreatDCP10
import Derived.Test.YtgfgglponbmgmaaGreatDCP14
import Derived.Test.YtgfgglponbmgmaaGreatDCP15
import Derived.Test.YtgfgglponbmgmaaGreatDCP17
import Derived.Test.YtgfgglponbmgmaaGreatDCP18
import Derived.Test.YtgfgglponbmgmaaGreatDCP28
set_option linter.unusedVariables false
set_option linter.unusedSimpArgs false
set_option linter.unnecessarySimpa false
noncomputable section
section
namespace Go.Proofs.YtgfgglponbmgmaaGreat.Fun
open Go Go.RowKit Go.Proofs.YtgfgglponbmgmaaGreatA.Am
set_option maxRecDepth 10000
section
open Go.Proofs.YtgfgglponbmgmaaGreatA
variable {G:ae} {H H':aa} {o o':aj} {p c pp mp xp yp f i:Nat} {K:aa→aj→Prop} {x:Value} {m m' mP:Y.Mm} {cl:Int} {th:jy} {L:List jV} {N M:Nat}
theorem adO (H:aa):ay Tryz.prog 42 0 [] H=some (.slice (some ⟨H.length,0,none⟩) 0 0,H.new ⟨[],2,1,false⟩):=by kernel_rfl
theorem Q0 {s:Value}{l:List Int}(hs:eJ H s l)(hl:l.length≤65536):aF (run G) 82 [s] H λv H'=>M9 H H' v l:=by
 refine Ev.up (t:=λk=>F82 (run G k) k s H) ?_ λk=>Xy ..
 obtain⟨a,cc,es⟩:=hs.isSlice;subst es;simp -implicitDefEqProofs only[F82,Ao _ _ _ slI,sS,Nat.reduceAdd];cases a with
 |none=>
  simp -implicitDefEqProofs only[Option.isNone_none,sS,Nat.reduceAdd];rcases hs with⟨_,e⟩|⟨i,off,c,e,_⟩
  ·subst e;exact Ev.ret ⟨Ext.refl _,.inl ⟨rfl,rfl⟩,λa n c e=>by cases e⟩
  ·cases e
 |some a=>
  simp -implicitDefEqProofs only[Option.isNone_some,adO,sS,Nat.reduceAdd];obtain⟨H1,e1⟩: ∃z,z=H.new ⟨[],2,1,false⟩:=⟨_,rfl⟩;have f1:Fr H o0 H1 (o0.up H.length (-2)) [-2]:=by rw[e1];exact(Fr.refl _ _ _).new _ _
  have s1:oK H1 (o0.up H.length (-2)) (-2) (.slice (some ⟨H.length,0,none⟩) 0 0) []:=.inr ⟨H.length,0,[],2,rfl,by rw[e1];simpa using aK,rfl,aO⟩
  have NG:eJ H1 (.slice (some a) l.length cc) l:=by rw[e1];exact Dg hs _
  obtain⟨x2,H2,o2,a2,s2,f2,_⟩:=j9 2 s1 NG (by simp;omega)
  rw[←e1];simp -implicitDefEqProofs only[a2,sS,Nat.reduceAdd];have f12:=f1.tr f2;simp only[List.nil_append] at s2;refine Ev.ret ⟨Ext.of f12 λi hi=>by show(-1:Int) ∉ [-2];simp,s2.ints.1,λb n c e=>?_⟩
  rcases s2 with⟨e',_⟩|⟨q,cap,rest,ty,e',g',_,ho⟩
  ·rw[e'] at e;cases e
  ·rw[e'] at e;cases e;rcases Nat.lt_or_ge q H.length with g|g
   ·have:=f12.own q g
    rw[ho] at this;exact absurd this (by show(-2:Int)≠ -1;decide)
   ·exact g
theorem Q2 (h:JP K pp m cl H):aF (run G) 51 [pv pp] H λv H'=>M9 H H' v m.cs:=by
 refine Ev.up (t:=λk=>F51 (run G k) k (pv pp) H) ?_ λk=>Xs ..
 obtain⟨_,o,⟨jH,ref,s,ty,g,_,hs,hl⟩,_⟩:=h;have M0:aq (pv pp) H=some s:=an pp 0 H g;simp -implicitDefEqProofs only[F51,M0,Nat.add_zero,sS,Nat.reduceAdd];refine Ev.call (Q0 hs.ints.1 (by omega)) ?_
 intro v H' hw
 try simp -implicitDefEqProofs only[sS,Nat.reduceAdd]
 exact Ev.ret hw
theorem Uw {a b:Value}{l r:List Int}(ha:eJ H a l)(hb:eJ H b r)(hl:l.length≤1000000):aF (run G) 52 [a,b] H (Is H (.bool (decide (l=r)))):=by
 refine Ev.up (t:=λk=>F52 (run G k) k a b H) ?_ λk=>Xc ..
 simp -implicitDefEqProofs only[F52,ha.len,hb.len,sS,Nat.reduceAdd];refine Ev.neq (λhq=>?_) (λhq=>?_)<;>try simp -implicitDefEqProofs only[sS,Nat.reduceAdd]
 ·exact Ev.ret ⟨by rw[decide_eq_false (by rintro rfl;exact hq rfl)],rfl⟩
 have hlr:l.length=r.length:=by omega
 refine Ev.loop (k:=l.length) (λkk vs Hx=>∃(j:Nat) (x4 aD aM bX:Value),vs=[a,b,x4,aD,cv j,aM,bX]∧Hx=H∧j+kk=l.length∧l.take j=r.take j)
  (λq=>q.2.2=H∧∃(x4 aD x5 aM bX:Value),q.2.1=[a,b,x4,aD,x5,aM,bX]∧((q.1= .exit 0∧l=r)∨(q.1= .ret∧x4= .bool false∧l≠r))) ⟨0,_,_,_,_,rfl,rfl,by omega,rfl⟩ ?_ ?_
 ·rintro kk vs Hx ⟨j,x4,aD,aM,bX,rfl,rfl,hj,he⟩;have hw:IntKind.i64.wrap ((j:Int)+1)=((j+1:Nat):Int):=by rw[gz (by omega)];omega
  simp -implicitDefEqProofs only[ON,Cn,ha.len,sS,Nat.reduceAdd];refine Ev.lss (λhq=>?_) (λhq=>?_)<;>try simp -implicitDefEqProofs only[sS,Nat.reduceAdd]
  ·have AJ:j<l.length:=by omega
   have hjr:j<r.length:=by omega
   obtain⟨q1,f1,b1,i1,g1,c1⟩:=ha.idx AJ;obtain⟨q2,f2,b2,i2,g2,c2⟩:=hb.idx hjr;have L1:aq (.pointer (some ⟨q1,f1,none⟩)) Hx=some (cv (l.getD j 0)):=(an q1 f1 Hx g1).trans c1;have L2:aq (.pointer (some ⟨q2,f2,none⟩)) Hx=some (cv (r.getD j 0)):=(an q2 f2 Hx g2).trans c2;have eg: ∀{z:List Int} (hz:j<z.length),z.getD j 0=z[j]:=λhz=>by simp[List.getD_eq_getElem?_getD,hz]
   simp -implicitDefEqProofs only[i1,L1,i2,L2,sS,Nat.reduceAdd];refine Ev.neq (λkE=>?_) (λkE=>?_)<;>try simp -implicitDefEqProofs only[hw,sS,Nat.reduceAdd]
   ·refine Ev.ret (.inr ⟨by simp,rfl,_,_,_,_,_,rfl,.inr ⟨rfl,rfl,by rintro rfl;exact kE rfl⟩⟩)
   ·refine Ev.ret (.inl ⟨rfl,kk-1,by omega,j+1,_,_,_,_,rfl,rfl,by omega,?_⟩)
    rw[←List.take_append_getElem AJ, ←List.take_append_getElem hjr,he, ←eg AJ, ←eg hjr,kE]
  ·refine Ev.ret (.inr ⟨by simp,rfl,_,_,_,_,_,rfl,.inl ⟨rfl,?_⟩⟩)
   rw[←List.take_of_length_le (show l.length≤j by omega), ←List.take_of_length_le (show r.length≤j by omega)];exact he
 ·rintro e vs Hx ⟨hx,x4,aD,x5,aM,bX,rfl,⟨he,hlr⟩|⟨he,rfl,hlr⟩⟩
  ·simp only at he hx;subst he hx;simp -implicitDefEqProofs only[OP,Co,sS,Nat.reduceAdd];exact Ev.ret ⟨by rw[decide_eq_true hlr],rfl⟩
  ·simp only at he hx;subst he hx;show Ev (λ_=>some (Value.bool false,Hx)) _
   exact Ev.ret ⟨by rw[decide_eq_false hlr],rfl⟩
theorem Q3 (h:YR H o yp xp pp mp m m cl th L):aF (run G) 15 [pv yp] H λv H'=>v= .bool true∧∃o',Fr H o H' o' []∧YR H' o' yp xp pp mp m m cl th L:=by
 refine Ev.up (t:=λk=>F15 (run G k) k (pv yp) H) ?_ λk=>Yb ..
 obtain⟨a0,a1,a2⟩:=h.ld;simp -implicitDefEqProofs only[F15,a0,a1,a2,Nat.add_zero,sS,Nat.reduceAdd];refine Ev.call (Q1:=λv H'=>v= .bool true∧Ext H H') ?_ ?_
 ·refine Ev.up (t:=λk=>F68 (run G k) k (pv pp) (pv mp) H) ?_ λk=>Yf ..
  simp -implicitDefEqProofs only[F68,sS,Nat.reduceAdd];refine Ev.call (Q2 h.jp) ?_;rintro w H1 ⟨ex,hw,_⟩;have h1:=h.fr (ex.fr o (-9)) (by simp)
  obtain⟨cn,od,rf,s,ty,g,_,hs,_⟩:=h.Dr;have n7: ∀{Hx:aa},Ext H Hx→aq (.pointer (some ⟨mp,1,none⟩)) Hx=some s∧aq (pv mp) Hx=some (cv m.max):=λe=>⟨an mp 1 _ (e.get g),an mp 0 _ (e.get g)⟩
  obtain⟨b1,b0⟩:=n7 ex;obtain⟨c1,c0⟩:=n7 (Ext.refl H);have NG:eJ H1 s m.cs:=hs.ints.1.keep λi b e dx=>by
   rcases hs with⟨_,e2⟩|⟨q,cap,rest,Be,e1,g1,_⟩
   ·exact absurd e2 dx
   ·rw[e1] at e;cases e;exact eo (ex.old _ (ar g1))
  simp -implicitDefEqProofs only[b1,sS,Nat.reduceAdd];refine Ev.is (Uw hw NG (by have:=h.Dr.Au;omega)) ?_
  have AM:=oK.oj hs;have ht:decide (m.cs=m.cs)=true:=by simp
  simp -implicitDefEqProofs only[ht,decide_true,sS,Nat.reduceAdd];refine Ev.is (JS h1.jp) ?_;simp -implicitDefEqProofs only[b1,NG.len,sS,Nat.reduceAdd];refine Ev.eql (λ_=>?_) (λhq=>absurd rfl hq)
  try simp -implicitDefEqProofs only[sS,Nat.reduceAdd]
  refine Ev.is (Uu h1.jp) ?_;simp -implicitDefEqProofs only[b0,Nat.add_zero,sS,Nat.reduceAdd];refine Ev.eql (λ_=>?_) (λhq=>absurd rfl hq)
  try simp -implicitDefEqProofs only[b1,c1,b0,AM,lS,Nat.add_zero,sS,Nat.reduceAdd]
  exact Ev.ret ⟨rfl,ex⟩
 rintro v H1 ⟨rfl,ex⟩
 try simp -implicitDefEqProofs only[sS,Nat.reduceAdd]
 exact Ev.ret ⟨rfl,_,ex.fr o (-9),h.fr (ex.fr o (-9)) (by simp)⟩
def Q4 (th:jy)(m:Y.Mm)(im:jy)(m':Y.Mm):Prop:=∃i jI,i<3∧QI i th jI∧sJ i jI m im m'
theorem Ux (h:YR H o yp xp pp mp m m cl th L)(hI:Inv th L N M)(hN:N+3<4000000)(hM:M<1048576)(n:Int):aF (run G) 22 [pv yp,cv n] H λv H'=>∃o' m' gR im L',Fr H o H' o' yt∧YR H' o' yp xp pp mp m' m' gR im L'∧Inv im L' (N+3) (M+1)∧Q4 th m im m':=by
 refine Ev.up (t:=λk=>F22 (run G k) k (pv yp) (cv n) H) ?_ λk=>Yc ..
 obtain⟨a0,a1,a2⟩:=h.ld;obtain⟨tb,cap,inv,dG,e3,e4,e6,e7,eT,_⟩:=h.2.2.1.n7;simp -implicitDefEqProofs only[F22,a0,a1,e4,cD,Nat.add_zero,sS,Nat.reduceAdd];refine Ev.call (lA n 3 (by omega)) ?_
 rintro v H1 ⟨t,rfl,Wl,Qb,rfl⟩;obtain⟨i,rfl⟩: ∃k:Nat,t=k:=⟨t.toNat,by omega⟩
 have hi:i<3:=by omega
 obtain⟨Uc,Ud⟩:=eT i hi;obtain⟨no,d1,d7,d8⟩:=h.2.2.1.VU hi;have J0: ∀{Hx:aa} {ox:aj} {og:jy} {Lx:List jV} (cd:Value),Fr H1 o Hx ox yt→YR Hx ox yp xp pp mp m m cl og Lx→Inv og Lx (N+3) M→QI i th og→Ev (λk=>CG (run G k) k [pv yp,cv n,cv i,cd] Hx) λr=>∃o' m' gR im L',Fr H1 o r.2 o' yt∧YR r.2 o' yp xp pp mp m' m' gR im L'∧Inv im L' (N+3) (M+1)∧Q4 th m im m':=by
  intro Hx ox og Lx cd fx hx hIx hR;obtain⟨b0,b1,b2⟩:=hx.ld;simp -implicitDefEqProofs only[Pb,CF,b1,sS,Nat.reduceAdd];refine Ev.call (QG hx.2.2.1 hi hIx (by omega) hM) ?_
  rintro v H2 ⟨o2,Ht,L2,m2,r,s,e,rfl,_,f2,h2,hI2,Ue⟩;have f2y:Fr Hx ox H2 o2 yt:=f2.wk (λz hz=>by simp at hz ⊢;omega)
  obtain⟨⟨ty,g⟩,ho,_,hp⟩:=hx;have Qa:YR H2 o2 yp xp pp mp m m2 cl Ht L2:=⟨⟨ty,by rw[f2.same yp (ar g) (by rw[ho];simp)];exact g⟩,by rw[f2.own yp (ar g)];exact ho,h2,hp.fr f2 (by simp) (by simp)⟩
  have hl:=Ue.len
  try simp -implicitDefEqProofs only[sS,Nat.reduceAdd]
  refine Ev.call (Fp Qa hl.1 hl.2.symm) ?_;rintro v H3 ⟨o3,gR,f3,h3⟩
  try simp -implicitDefEqProofs only[sS,Nat.reduceAdd]
  exact Ev.ret ⟨o3,m2,gR,Ht,L2,(fx.tr f2y).trans f3 (λ_ h=>h) (by simp),h3,hI2,i,og,hi,hR,Ue⟩
 simp -implicitDefEqProofs only[a1,e4,Uc,Ud,d1,sS,Nat.reduceAdd];have hI3:Inv th L (N+3) M:=⟨by have:=hI.len;omega,hI.lists,hI.tape⟩
 cases hb:(th i).busy<;>simp -implicitDefEqProofs only[a1,QJ,sS,Nat.reduceAdd]
 ·refine Ev.call (V1 _) ?_;rintro v H2 ⟨op,rfl,ex⟩;have f2:Fr H1 o H2 (o.from H1.length (-9)) []:=ex.fr o (-9)
  have h2:=h.fr f2 (by simp)
  obtain⟨b0,b1,b2⟩:=h2.ld;refine Ev.call (Fk h2.2.2.1 hi hI (by omega) op) ?_
  rintro v H3 ⟨o3,th3,L3,f3,h3,Z5,hR⟩;have f3y:Fr H2 (o.from H1.length (-9)) H3 o3 yt:=f3.wk (λz hz=>by simp at hz ⊢;omega)
  obtain⟨⟨ty,g⟩,ho,_,hp⟩:=h2;have hy3:YR H3 o3 yp xp pp mp m m cl th3 L3:=⟨⟨ty,by rw[f3.same yp (ar g) (by rw[ho];simp)];exact g⟩,by rw[f3.own yp (ar g)];exact ho,h3,hp.fr f3 (by simp) (by simp)⟩
  simp -implicitDefEqProofs only[a1,b1,iX,sS,Nat.reduceAdd];exact J0 _ (f2.trans f3y (by simp) (λ_ h=>h)) hy3 ⟨Z5.len,Z5.lists,Z5.tape⟩ hR
 ·exact J0 _ (Fr.refl _ _ _) h hI3 (.inl rfl)
end
section
open Go.Proofs.YtgfgglponbmgmaaGreatA
variable {G:ae} {H H':aa} {o o':aj} {p c pp mp xp yp f i:Nat} {K:aa→aj→Prop} {x:Value} {m m' mP:Y.Mm} {cl:Int} {th:jy} {L:List jV} {N M:Nat} {Ga:Y.Ga}
def Uy (Ga:Y.Ga)(m:Y.Mm)(l:PL):Prop:=l≠[]∧l.length≤m.cs.length∧∀e∈l,∃q,Y.aU Ga e.2 e.1 q∧Ga.nz e.2
theorem Uz (hm:qg H mp m)(i:Y.bz Ga m)(r:Hw Ga)(o:aj):aF (run G) 50 [pv mp] H λv H'=>∃t o' l,Fr H o H' o' []∧gZ H' o' t v l∧Uy Ga m l:=by
 refine Ev.up (t:=λk=>F50 (run G k) k (pv mp) H) ?_ λk=>XI ..
 have hl:m.cs.length≤65536:=by have:=i.top;omega
 obtain⟨l,hb,hlen,Z6⟩:=Y.Ho i r.1 r.2;obtain⟨t,Qb,C2⟩:=gH o H.length;simp -implicitDefEqProofs only[F50,sS,Nat.reduceAdd];refine Ev.is (we hm hl 6) ?_;obtain⟨H1,e1⟩: ∃z,z=H.new ⟨[cv 1,cv 6],69,2,false⟩:=⟨_,rfl⟩;have b1:=VP 1 6 H;rw[←e1] at b1;simp -implicitDefEqProofs only[VO,b1,sS,Nat.reduceAdd];have f1:Fr H o H1 (o.up H.length t) []:=by rw[e1];exact(Fr.refl _ _ _).new _ _
 have s1:gZ H1 (o.up H.length t) t (.slice (some ⟨H.length,0,none⟩) 1 1) [(1,6)]:=.inr ⟨H.length,1,[],69,rfl,by rw[e1];exact aK,by simp,aO⟩
 have NK:=hm.fr f1;refine Ev.call (TO (t:=t) (B:=H) (b:=o) hm hl (λi hi=>by have:=C2 i hi;omega) _ rfl hb f1 s1 (by simp at hlen ⊢;omega)) ?_
 rintro v H2 ⟨o2,f2,s2⟩
 try simp -implicitDefEqProofs only[sS,Nat.reduceAdd]
 exact Ev.ret ⟨t,o2,(1,6)::l,f2,s2,by simp,hlen,Z6⟩
theorem Z7 (hm:qg H mp m)(i:Y.bz Ga m)(r:Hw Ga)(o:aj)(n:Int):aF (run G) 23 [pv mp,cv n] H λv H'=>∃o' node slot q,Fr H o H' o' []∧v= .agg #[cv node,cv slot]∧Y.aU Ga slot node q∧Ga.nz slot:=by
 refine Ev.up (t:=λk=>F23 (run G k) k (pv mp) (cv n) H) ?_ λk=>Xa ..
 have hl:m.cs.length≤65536:=by have:=i.top;omega
 obtain⟨H1,e1⟩: ∃z,z=H.new ⟨[cv 0,cv 0],69,1,false⟩:=⟨_,rfl⟩;have n0:aS H 69 1 [cv 0,cv 0]=(pv H.length,H1):=by rw[e1];rfl
 have f1:Fr H o H1 (o.up H.length (-9)) []:=by rw[e1];exact(Fr.refl _ _ _).new _ _
 have g1:H1.get H.length=some ⟨[cv 0,cv 0],69,1,false⟩:=by rw[e1];exact aK
 have NK:=hm.fr f1;simp -implicitDefEqProofs only[F23,n0,sS,Nat.reduceAdd];refine Ev.call (Uz NK i r (o.up H.length (-9))) ?_;rintro v H2 ⟨t,o2,l,f2,s2,dx,hlen,Z6⟩;simp -implicitDefEqProofs only[s2.len,sS,Nat.reduceAdd];have FN:0<l.length:=List.length_pos_iff.2 dx;refine Ev.call (lA n l.length (by omega)) ?_
 rintro v' H3 ⟨z,rfl,Wd,hz1,rfl⟩;obtain⟨j,rfl⟩: ∃k:Nat,z=k:=⟨z.toNat,by omega⟩
 have hj:j<l.length:=by omega
 obtain⟨qi,b,k1,k2,k3,k4⟩:=s2.idx hj;obtain⟨_,_,k5⟩:=k4 H3 k2;have eg:l.getD j (0,0)=l[j]:=by simp[List.getD_eq_getElem?_getD,hj]
 rw[eg] at k5;have g3:H3.get H.length=some ⟨[cv 0,cv 0],69,1,false⟩:=by rw[f2.same _ (ar g1) (by simp)];exact g1
 have S:bD 2 (pv H.length) (.agg #[cv l[j].1,cv l[j].2]) H3=some (undef,H3.put H.length ⟨[cv l[j].1,cv l[j].2],69,1,false⟩):=by
  simp[bD,bZ,g3,Value.cells,known,aC,dz]
 have D:df 2 (pv H.length) (H3.put H.length ⟨[cv l[j].1,cv l[j].2],69,1,false⟩)=some (.agg #[cv l[j].1,cv l[j].2]):=by
  simp[df,aQ,aH g3]
 simp -implicitDefEqProofs only[k1,k5,S,D,sS,Nat.reduceAdd];obtain⟨q,hq,hz⟩:=Z6 l[j] (List.getElem_mem hj);have Dx:o2 H.length= -9:=by rw[f2.own _ (ar g1)];exact aO
 exact Ev.ret ⟨o2,l[j].1,l[j].2,q,(f1.tr f2).put λhh=>by omega,rfl,hq,hz⟩
end
section
open Go.Proofs.YtgfgglponbmgmaaGreatA
variable {G:ae} {H H' H0:aa} {b o o':aj} {p c pp mp xp yp fp i:Nat} {x:Value} {m m' mP:Y.Mm} {cl:Int} {tag:Int} {cs:List Value}
def mD (H0:aa)(b:aj)(fp:Nat)(tag:Int)(pp:Nat)(cs:List Value)(m:Y.Mm)(cl:Int)(H:aa):Prop:=
 tag< -95∧∃(o:aj) (ty:TypeId),zI H o pp m cl∧H.get fp=some ⟨cs,ty,1,false⟩∧o fp=tag∧Fr H0 b H o [-90, -91,tag]
theorem mD.ld (h:mD H0 b fp tag pp cs m cl H): ∀k,aq (.pointer (some ⟨fp,k,none⟩)) H=cs[k]? :=λk=>by
 obtain⟨_,o,ty,_,g,_⟩:=h;exact an fp k H g
theorem mD.ld0 (h:mD H0 b fp tag pp cs m cl H):aq (pv fp) H=cs[0]? :=h.ld 0
theorem mD.st (h:mD H0 b fp tag pp cs m cl H){k:Nat}(hk:k<cs.length){v:Value}(h1:v.cells= #[v])(h2:known v=true)(h3:aC v=true): ∃H',bD 1 (.pointer (some ⟨fp,k,none⟩)) v H=some (undef,H')∧mD H0 b fp tag pp (cs.set k v) m cl H':=by
 obtain⟨ht,o,ty,hm,g,ho,f⟩:=h;have f1:Fr H o (H.put fp ⟨cs.set k v,ty,1,false⟩) o [tag]:=(Fr.refl _ _ _).put λ_=>by simp[ho]
 exact⟨_,sr fp k v H g rfl hk h1 h2 h3,ht,o,ty,hm.fr f1 (by simp;omega) (by simp;omega),aH g,ho,f.trans f1 (λ_ h=>h) (by simp)⟩
theorem mD.jp (h:mD H0 b fp tag pp cs m cl H):JP (λH' o'=>∃ty,H'.get fp=some ⟨cs,ty,1,false⟩∧o' fp=tag∧Fr H0 b H' o' [-90, -91,tag]) pp m cl H:=by
 obtain⟨ht,o,ty,hm,g,ho,f⟩:=h;exact⟨λH o H' o' ⟨ty,a1,a2,a3⟩ f=>⟨ty,by rw[f.same fp (ar a1) (by rw[a2];simp;omega)];exact a1,by rw[f.own fp (ar a1)];exact a2,a3.trans f (λ_ h=>h) (by simp)⟩,o,hm,ty,g,ho,f⟩
theorem mD.of {m':Y.Mm}{gR:Int}(h:mD H0 b fp tag pp cs m cl H)(k:JP (λH' o'=>∃ty,H'.get fp=some ⟨cs,ty,1,false⟩∧o' fp=tag∧Fr H0 b H' o' [-90, -91,tag]) pp m' gR H'):mD H0 b fp tag pp cs m' gR H':=by
 obtain⟨_,o,hm,ty,g,ho,f⟩:=k;exact⟨h.1,o,ty,hm,g,ho,f⟩
section
variable {α:Type} {kk:Nat→Value→aa→Option α} {Q:α→Prop} {k:Nat} {v:Int}
theorem Ev.stF (h:mD H0 b fp tag pp cs m cl H)(hl:k<cs.length)(hk: ∀H',mD H0 b fp tag pp (cs.set k (cv v)) m cl H'→Ev (λn=>kk n undef H') Q):Ev (λn=>af (bD 1 (.pointer (some ⟨fp,k,none⟩)) (cv v) H) (kk n)) Q:=by
 obtain⟨H',e,h'⟩:=h.st hl (v:=cv v) rfl rfl rfl;rw[e];exact hk H' h'
theorem Ev.Nc (h:mD H0 b fp tag pp cs m cl H)(hl:0<cs.length)(hk: ∀H',mD H0 b fp tag pp (cs.set 0 (cv v)) m cl H'→Ev (λn=>kk n undef H') Q):Ev (λn=>af (bD 1 (pv fp) (cv v) H) (kk n)) Q:=Ev.stF h hl hk
theorem Ev.rdF {a:Int}(h:mD H0 b fp tag pp cs m cl H)(hk: ∀H',mD H0 b fp tag pp cs m (c1 cl) H'→Ev (λn=>kk n (cv (m.at a)) H') Q):Ev (λn=>af (run G n 67 [pv pp,cv a] H) (kk n)) Q:=
 Ev.call (Ut h.jp a) λv H' hq=>by obtain⟨rfl,hj⟩:=hq;exact hk H' (h.of hj)
theorem Ev.csF {a y z:Int}(h:mD H0 b fp tag pp cs m cl H)(hk: ∀H',mD H0 b fp tag pp cs (Y.dC m (.cs a y z)).2 (c1 cl) H'→Ev (λn=>kk n (.bool (decide ((Y.dC m (.cs a y z)).1=1))) H') Q):Ev (λn=>af (run G n 66 [pv pp,cv a,cv y,cv z] H) (kk n)) Q:=
 Ev.call (ZZ h.jp a y z) λv H' hq=>by obtain⟨rfl,hj⟩:=hq;exact hk H' (h.of hj)
end
end
section
open Go.Proofs.YtgfgglponbmgmaaGreatA
variable {m m':Y.Mm} {th im:jy} {Ga G':Y.Ga} {slot node:Int} {q:List Nat}
end
section
variable {H:aa} {P:Program} {e t:TypeId} {f:Nat}
theorem mc.aco (ht:P.underlying t=some (.slice e))(he:P.underlying e=some (.int .i64))(hc:P.cellsOf e=1){v:Value}(h:mc P H (f+2) t v):
  ∃l,sL H v l∧dy H o0 (-1) v l∧l.length≤maxLen:=by
 obtain⟨l,h1,_,h3⟩:=h.ints ht he hc;refine⟨l,⟨h1.1,λa n c ev=>?_⟩,h1,h3⟩
 obtain⟨a',c',e'⟩:=h1.1.isSlice;rcases In.slice ht (h.one (by simp[ht])) with k|⟨i,es,k,_⟩
 ·cases k;cases ev;injection e' with _ e2 _;omega
 ·cases k;cases ev;injection e' with _ e2 _;omega
theorem acp (k:FuncId)(hk:kk.contains k=true)(H:aa):aF (run KG) k [] H (Is H (.bool true)):=by
 refine aF.is (λn=>?_) ⟨rfl,rfl⟩
 have hb:(ks++oo Tryz.prog).contains k=true:=by
  simp only[List.contains_eq_mem,decide_eq_true_eq,List.mem_append] at hk ⊢;exact .inl hk
 unfold run;simp only[gC,hb,if_true];show(if kk.contains k=true∧([]:List Value).isEmpty=true then some (Value.bool true,H) else none)=_
 rw[if_pos ⟨hk,rfl⟩]
end
section
open Go.Proofs.YtgfgglponbmgmaaGreatA
variable {G:ae} {H H' H0:aa} {b o o':aj} {p c pp mp xp yp fp gp i:Nat} {x:Value} {m m' mP:Y.Mm} {cl gR:Int} {tag:Int} {cs:List Value} {th:jy} {L:List jV} {N M:Nat} {T:List Int} {Ga:Y.Ga}
def PF (H:aa)(o:aj)(fp:Nat)(tag:Int)(cs:List Value):Prop:=∃ty,H.get fp=some ⟨cs,ty,1,false⟩∧o fp=tag
theorem PF.fr {ps:List Int}(h:PF H o fp tag cs)(f:Fr H o H' o' ps)(hp:tag ∉ ps):PF H' o' fp tag cs:=by
 obtain⟨ty,g,ho⟩:=h;exact⟨ty,by rw[f.same fp (ar g) (by rw[ho];exact hp)];exact g,by rw[f.own fp (ar g)];exact ho⟩
theorem PF.new (t:TypeId):PF (H.new ⟨cs,t,1,false⟩) (o.up H.length tag) H.length tag cs:=⟨t,aK,aO⟩
def jW (tag:Int):Bool:=decide (tag< -95)&& !(yt.contains tag)&&decide (-230<tag∨tag< -290)
theorem wh (h:jW tag=true):tag< -95∧∀z∈(-41:Int)::yt,z≠tag:=by
 simp only[jW,Bool.and_eq_true,decide_eq_true_eq,Bool.not_eq_true',List.contains_eq_mem,decide_eq_false_iff_not] at h;refine⟨h.1.1,λz hz e=>?_⟩
 subst e;rcases List.mem_cons.1 hz with e|hz
 ·omega
 ·exact h.1.2 hz
theorem mD.start (hy:YR H o yp xp pp mp mP m cl th L)(hf:PF H o fp tag cs)(ht:tag< -95):mD H o fp tag pp cs mP cl H:=by
 obtain⟨ty,g,ho⟩:=hf;exact⟨ht,o,ty,hy.2.2.2,g,ho,Fr.refl _ _ _⟩
theorem mD.back (h:mD H0 b fp tag pp cs m cl H): ∃o,zI H o pp m cl∧PF H o fp tag cs∧Fr H0 b H o [-90, -91,tag]:=by
 obtain⟨_,o,ty,hm,g,ho,f⟩:=h;exact⟨o,hm,⟨ty,g,ho⟩,f⟩
theorem YR.adP (h:YR H o yp xp pp mp mP m cl th L)(f:Fr H o H' o' [-90, -91,tag])(ht:jW tag=true)(hm:zI H' o' pp m' gR):YR H' o' yp xp pp mp m' m gR th L:=by
 obtain⟨⟨ty,g⟩,ho,hw,hp⟩:=h;obtain⟨h1,h2⟩:=wh ht;refine⟨⟨ty,by rw[f.same yp (ar g) (by rw[ho];simp;omega)];exact g⟩,by rw[f.own yp (ar g)];exact ho,hw.uJ f λz hz hh=>?_,hm⟩
 simp only[List.mem_cons,List.not_mem_nil,or_false] at hz;rcases hz with rfl|rfl|rfl
 ·simp at hh
 ·simp at hh
 ·exact h2 z (by
   rcases List.mem_cons.1 hh with rfl|hh
   ·simp
   ·exact List.mem_cons_of_mem _ (List.mem_cons_of_mem _ (List.mem_cons_of_mem _ (List.mem_cons_of_mem _ hh)))) rfl
theorem YR.adQ (h:YR H o yp xp pp mp mP m cl th L){tf tg:Int}(f:Fr H o H' o' [tf,tg, -70, -71])(h1:jW tf=true)(h2:jW tg=true)(hm:lL H' o' mp m'):YR H' o' yp xp pp mp mP m' cl th L:=by
 obtain⟨⟨ty,g⟩,ho,hw,hp⟩:=h;obtain⟨a1,a2⟩:=wh h1;obtain⟨b1,b2⟩:=wh h2;have f9: ∀z∈(-41:Int)::yt,z≠ -70→z≠ -71→z ∉ [tf,tg, -70, -71]:=λz hz n1 n2 hh=>by
  simp only[List.mem_cons,List.not_mem_nil,or_false] at hh;rcases hh with e|e|e|e
  ·exact a2 z hz e
  ·exact b2 z hz e
  ·exact n1 e
  ·exact n2 e
 refine⟨⟨ty,by rw[f.same yp (ar g) (by rw[ho];exact f9 _ (by simp) (by omega) (by omega))];exact g⟩,by rw[f.own yp (ar g)];exact ho,?_,hp.fr f (f9 _ (by simp) (by omega) (by omega)) (f9 _ (by simp) (by omega) (by omega))⟩
 obtain⟨c0,c1,c2,inv,dG,tb,cap,Lx,rest,ty,mT,g,ho,gt,kR,_,mQ,hL⟩:=hw;refine⟨c0,c1,c2,inv,dG,tb,cap,Lx,rest,ty,mT,?_,?_,?_,?_,hm,λj hj=>?_,hL.fr f (f9 _ (by simp) (by omega) (by omega)) (f9 _ (by simp) (by omega) (by omega))⟩
 ·rw[f.same xp (ar g) (by rw[ho];exact f9 _ (by simp) (by omega) (by omega))];exact g
 ·rw[f.own xp (ar g)];exact ho
 ·rw[f.same tb (ar gt) (by rw[kR];exact f9 _ (by simp) (by omega) (by omega))];exact gt
 ·rw[f.own tb (ar gt)];exact kR
 ·have:j=0∨j=1∨j=2:=by omega
  rcases this with rfl|rfl|rfl
  ·exact(mQ 0 hj).fr f (f9 _ (by simp) (by omega) (by omega)) (f9 _ (by simp) (by omega) (by omega)) (f9 _ (by simp) (by omega) (by omega)) (f9 _ (by simp) (by omega) (by omega))
  ·exact(mQ 1 hj).fr f (f9 _ (by simp) (by omega) (by omega)) (f9 _ (by simp) (by omega) (by omega)) (f9 _ (by simp) (by omega) (by omega)) (f9 _ (by simp) (by omega) (by omega))
  ·exact(mQ 2 hj).fr f (f9 _ (by simp) (by omega) (by omega)) (f9 _ (by simp) (by omega) (by omega)) (f9 _ (by simp) (by omega) (by omega)) (f9 _ (by simp) (by omega) (by omega))
end
section
open Go.Proofs.YtgfgglponbmgmaaGreatA
variable {G:ae} {H H' H0:aa} {b o o':aj} {p c pp mp xp yp fp gp i:Nat} {x:Value} {m m' mP:Y.Mm} {cl gR:Int} {tag:Int} {cs:List Value} {th:jy} {L:List jV} {N M:Nat} {T:List Int} {Ga:Y.Ga}
theorem Z8 {tf tg:Int}{pr:Pr}{done:Bool}{r0:eE}{rec:Int}(h:YR H o yp xp pp mp mP m cl th L)(hg:gy H o gp tf tg pr T done r0 rec)(dH:FB pr T done r0 rec)(hT:T.length<1048576)(ht:FT tf tg)(h1:jW tf=true)(h2:jW tg=true):aF (run G) 20 [pv gp,pv mp] H λv H'=>∃o' T' m' d r' ku,v= .bool d∧Fr H o H' o' [tf,tg, -70, -71]∧YR H' o' yp xp pp mp mP m' cl th L∧gy H' o' gp tf tg pr T' d r' ku∧FB pr T' d r' ku∧qQ pr done T m T' m':=by
 refine(JK hg dH h.Dr hT ht).mono ?_;rintro v H' ⟨o',T',m',d,r',ku,rfl,f,hg',Mq,Ni,hs⟩;exact⟨o',T',m',d,r',ku,rfl,f,h.adQ f h1 h2 Ni,hg',Mq,hs⟩
theorem FB.done {t:Y.Tr eE}{d:Bool}{r:eE}{rec:Int}(h:FB (.ex t) T d r rec){u:Y.Tr eE}(hu:Y.after t T=u):(∀a,u= .ret a→d=true∧r=a)∧(∀q k,u= .ask q k→d=false):=by
 obtain⟨h1,_,h3⟩:=h;have:=Y.sv t (wg T) rfl
 rw[show(wg T).rest=T from rfl,hu] at this
 refine⟨λa e=>?_,λq k e=>?_⟩
 ·subst e;obtain⟨a1,a2⟩:=this;rw[a2] at h1;exact⟨h1,(h3 h1).trans a1⟩
 ·subst e;rw[this.1] at h1;exact h1
end
section
open Go.Proofs.YtgfgglponbmgmaaGreatA
variable {G:ae} {H H' H0:aa} {b o o':aj} {p c pp mp xp yp fp gp i:Nat} {x:Value} {m m' mP:Y.Mm} {cl gR:Int} {tag:Int} {cs:List Value} {th:jy} {L:List jV} {N M:Nat} {T:List Int} {Ga:Y.Ga}
structure zR where
 next:Int
 guard:Int
 place:Int
 old:Int
 Av:Int
 gG:Int
 settle:Int
 out:Int
abbrev Fq (s:zR):List Value:=[cv s.next,cv s.guard,cv s.place,cv s.old,cv s.Av,cv s.gG,cv s.settle,cv s.out]
def bh (s:zR)(m:Y.Mm):zR×Y.Mm:=
 if s.next=0 then
  if(Y.dC m (.mk (Y.hU s.guard s.place s.old s.Av))).1>0 then({s with gG:=(Y.dC m (.mk (Y.hU s.guard s.place s.old s.Av))).1,next:=1},(Y.dC m (.mk (Y.hU s.guard s.place s.old s.Av))).2)
  else({s with gG:=(Y.dC m (.mk (Y.hU s.guard s.place s.old s.Av))).1,next:=6,out:=3},(Y.dC m (.mk (Y.hU s.guard s.place s.old s.Av))).2) else
 if s.next=1 then
  if(Y.dC m (.cs s.place s.old (Y.fP 5 s.gG))).1=1 then({s with next:=2},(Y.dC m (.cs s.place s.old (Y.fP 5 s.gG))).2)
  else({s with next:=6,out:=0},(Y.dC m (.cs s.place s.old (Y.fP 5 s.gG))).2) else
 if s.next=2 then({s with next:=3,settle:=if m.at s.guard≠0 then 2 else 1},m) else
 if s.next=3 then({s with next:=4},(Y.dC m (.cs (Y.wr (s.gG+4)) 0 s.settle)).2) else
 if s.next=4 then({s with next:=5,settle:=m.at (Y.wr (s.gG+4))},m) else
 if s.next=5 then
  if s.settle=1 then({s with next:=6,out:=1},(Y.dC m (.cs s.place (Y.fP 5 s.gG) s.Av)).2)
  else({s with next:=6,out:=2},(Y.dC m (.cs s.place (Y.fP 5 s.gG) s.old)).2) else
 (s,m)
def vj (s:zR):Prop:=0≤s.next∧s.next≤6
theorem sN {s:zR}(h:vj s):s.next=0∨s.next=1∨s.next=2∨s.next=3∨s.next=4∨s.next=5∨s.next=6:=by
 obtain⟨h1,h2⟩:=h;omega
theorem uj {s:zR}(h:vj s)(m:Y.Mm):vj (bh s m).1∧(bh s m).1.guard=s.guard∧(bh s m).1.place=s.place∧(bh s m).1.old=s.old∧(bh s m).1.Av=s.Av∧(s.next≠0→(bh s m).1.gG=s.gG)∧(bh s m).1.next≠0∧(s.next=6→bh s m=(s,m)):=by
 rcases sN h with e|e|e|e|e|e|e<;>simp only[bh,e,vj]<;>(repeat' split)<;>simp_all
def d5 (p old x a o:Int):Y.Tr eE:=if o=1 then .ask (.cs p (Y.fP 5 a) x) λ_=>.ret (Dk 1) else .ask (.cs p (Y.fP 5 a) old) λ_=>.ret (Dk 2)
def d4 (p old x a:Int):Y.Tr eE:=.ask (.rd (Y.wr (a+4))) λo=>d5 p old x a o
def d3 (p old x a st:Int):Y.Tr eE:=.ask (.cs (Y.wr (a+4)) 0 st) λ_=>d4 p old x a
def d2 (g p old x a:Int):Y.Tr eE:=.ask (.rd g) λgv=>d3 p old x a (if gv≠0 then 2 else 1)
def d1 (g p old x a:Int):Y.Tr eE:=.ask (.cs p old (Y.fP 5 a)) λb=>if b≠1 then .ret (Dk 0) else d2 g p old x a
def d0 (g p old x:Int):Y.Tr eE:=.ask (.mk (Y.hU g p old x)) λa=>if ¬a>0 then .ret (Dk 3) else .rc a (d1 g p old x a)
theorem Fs (g p old x:Int):nS g p old x=d0 g p old x:=by
 unfold nS Y.qc d0 d1 d2 d3 d4 d5;simp only[Y.zd,Y.y9,Y.bind_pure,Y.mk,Y.cs,Y.rd];refine congrArg _ (funext λa=>?_)
 split
 ·rfl
 ·simp only[Y.Jr,Y.zd,Y.y9,Y.bind_pure];refine congrArg _ (congrArg _ (funext λb=>?_))
  split
  ·rfl
  ·simp only[Y.Jr,Y.zd,Y.y9,Y.bind_pure];refine congrArg _ (funext λgv=>congrArg _ (funext λ_=>congrArg _ (funext λo=>?_)))
   split<;>rfl
def sT (s:zR):Y.Tr eE:=
 if s.next=0 then d0 s.guard s.place s.old s.Av else
 if s.next=1 then d1 s.guard s.place s.old s.Av s.gG else
 if s.next=2 then d2 s.guard s.place s.old s.Av s.gG else
 if s.next=3 then d3 s.place s.old s.Av s.gG s.settle else
 if s.next=4 then d4 s.place s.old s.Av s.gG else
 if s.next=5 then d5 s.place s.old s.Av s.gG s.settle else .ret (Dk s.out)
theorem UA (p old x a o:Int):Y.norm (d5 p old x a o)=d5 p old x a o:=by unfold d5;split<;>rfl
theorem Dt {s:zR}(h:vj s)(h6:s.next≠6)(m:Y.Mm): ∃q k,sT s= .ask q k∧(bh s m).2=(Y.dC m q).2∧Y.norm (k (Y.dC m q).1)=sT (bh s m).1:=by
 rcases sN h with e|e|e|e|e|e|e
 ·obtain⟨r,er⟩: ∃r,r=Y.dC m (.mk (Y.hU s.guard s.place s.old s.Av)):=⟨_,rfl⟩;refine⟨_,_,by simp only[sT,e,d0];rfl,?_,?_⟩
  ·simp only[bh,e, ←er];by_cases ha:r.1>0<;>simp[ha]
  ·simp only[bh,e, ←er];by_cases ha:r.1>0<;>simp[ha,sT,Y.norm,d1]
 ·obtain⟨r,er⟩: ∃r,r=Y.dC m (.cs s.place s.old (Y.fP 5 s.gG)):=⟨_,rfl⟩;refine⟨_,_,by simp only[sT,e,d1];rfl,?_,?_⟩
  ·simp only[bh,e, ←er];by_cases ha:r.1=1<;>simp[ha]
  ·simp only[bh,e, ←er];by_cases ha:r.1=1<;>simp[ha,sT,Y.norm,d2]
 ·exact⟨_,_,by simp[sT,e,d2];exact⟨rfl,rfl⟩,by simp[bh,e,Y.dC],by simp[bh,e,sT,Y.dC,d3,Y.norm];try rfl⟩
 ·exact⟨_,_,by simp[sT,e,d3];exact⟨rfl,rfl⟩,by simp[bh,e],by simp[bh,e,sT,d4,Y.norm]⟩
 ·exact⟨_,_,by simp[sT,e,d4];exact⟨rfl,rfl⟩,by simp[bh,e,Y.dC],by simp[bh,e,sT,Y.dC,UA]⟩
 ·by_cases ho:s.settle=1
  ·exact⟨_,_,by simp[sT,e,d5,ho];exact⟨rfl,rfl⟩,by simp[bh,e,ho],by simp[bh,e,sT,ho,Y.norm]⟩
  ·exact⟨_,_,by simp[sT,e,d5,ho];exact⟨rfl,rfl⟩,by simp[bh,e,ho],by simp[bh,e,sT,ho,Y.norm]⟩
 ·exact absurd e h6
theorem Q5 {s:zR}(h:s.next=6):sT s= .ret (Dk s.out):=by simp[sT,h]
def qh (T:List Int):Int:=match T with| []=>0|z::_=>if z>0 then z else 0
theorem sO (q:Y.Ask)(s:Y.St):(Y.lG q s).2.gG=s.gG:=by
 unfold Y.lG;split
 ·rfl
 ·split<;>rfl
theorem Z9 (g p old x a:Int)(s:Y.St):(Y.ah (d1 g p old x a) s).2.gG=s.gG:=by
 have key: ∀(o:Int) (s':Y.St),(Y.ah (d5 p old x a o) s').2.gG=s'.gG:=λo s'=>by
  unfold d5;split<;>simp only[Y.ah,sO]
 simp only[d1,Y.ah];split
 ·simp only[Y.ah,sO]
 ·simp only[d2,d3,d4,Y.ah,key,sO]
theorem uk (g p old x:Int)(T:List Int):(Y.ah (nS g p old x) (wg T)).2.gG=qh T:=by
 rw[Fs];simp only[d0,Y.ah];cases T with
 |nil=>simp[Y.lG,wg,qh,Y.ah]
 |cons z r=>
  by_cases hz:z>0
  ·have e:(Y.lG (.mk (Y.hU g p old x)) (wg (z::r))).1=z:=rfl;rw[e,if_neg (by simpa using hz)]
   simp only[Y.ah,Z9,qh,if_pos hz]
  ·have e:(Y.lG (.mk (Y.hU g p old x)) (wg (z::r))).1=z:=rfl;rw[e,if_pos hz];simp only[Y.ah,sO,qh,if_neg hz];rfl
theorem Nd {T:List Int}(h:T≠[])(z:Int):qh (T++[z])=qh T:=by
 cases T with
 |nil=>exact absurd rfl h
 |cons a r=>rfl
theorem Ft {s:zR}(h:mD H0 b fp tag pp (Fq s) m cl H):aF (run G) 41 [pv fp] H (Is H (.bool (decide (s.next=6)))):=by
 refine Ev.up (t:=λn=>F41 (run G n) n (pv fp) H) ?_ λn=>XH ..
 have L:=h.ld0;simp -implicitDefEqProofs only[F41,Nat.add_zero,L,sS,Nat.reduceAdd];simp -implicitDefEqProofs only[vW,sS,Nat.reduceAdd];exact Ev.ret ⟨rfl,rfl⟩
theorem UB {s:zR}(h:mD H0 b fp tag pp (Fq s) m cl H):aF (run G) 42 [pv fp] H (Is H (cv s.gG)):=by
 refine Ev.up (t:=λn=>F42 (run G n) n (pv fp) H) ?_ λn=>Xb ..
 have L:=h.ld 5;simp -implicitDefEqProofs only[F42,Nat.zero_add,L,sS,Nat.reduceAdd];exact Ev.ret ⟨rfl,rfl⟩
theorem UC {s:zR}(h:mD H0 b fp tag pp (Fq s) m cl H):aF (run G) 43 [pv fp] H (Is H (cv s.out)):=by
 refine Ev.up (t:=λn=>F43 (run G n) n (pv fp) H) ?_ λn=>WX ..
 have L:=h.ld 7;simp -implicitDefEqProofs only[F43,Nat.zero_add,L,sS,Nat.reduceAdd];exact Ev.ret ⟨rfl,rfl⟩
theorem wj {s:zR}(h:mD H0 b fp tag pp (Fq s) m cl H)(z:Int):aF (run G) 80 [pv fp,cv z] H λ_ H'=>mD H0 b fp tag pp (Fq {s with out:=z,next:=6}) m cl H':=by
 refine Ev.up (t:=λn=>F80 (run G n) n (pv fp) (cv z) H) ?_ λn=>Xx ..
 simp -implicitDefEqProofs only[F80,Nat.zero_add,sS,Nat.reduceAdd];refine Ev.stF h (by simp) λH1 h1=>?_
 try simp -implicitDefEqProofs only[sS,Nat.reduceAdd]
 refine Ev.Nc h1 (by simp) λH2 h2=>?_
 try simp -implicitDefEqProofs only[sS,Nat.reduceAdd]
 exact Ev.ret h2
theorem Fu (a b c d:Int):aF (run G) 65 [cv a,cv b,cv c,cv d] H λw H'=>(∃T,H'=H.new ⟨[a,b,c,d,0].map cv,T,1,false⟩)∧eJ H' w (Y.hU a b c d)∧∀a n c,w= .slice (some a) n c→H.length≤a.block:=by
 refine Ev.up (t:=λn=>F65 (run G n) n (cv a) (cv b) (cv c) (cv d) H) ?_ λn=>XK ..
 simp -implicitDefEqProofs only[F65,PR,sS,Nat.reduceAdd];exact Ev.ret ⟨⟨_,rfl⟩,lv [a,b,c,d,0] _,λa n c e=>by cases e;exact Nat.le_refl _⟩
theorem mD.new (h:mD H0 b fp tag pp cs m cl H)(bl:eS):mD H0 b fp tag pp cs m cl (H.new bl):=by
 obtain⟨ht,o,ty,hm,g,ho,f⟩:=h;have f1:Fr H o (H.new bl) (o.up H.length (-9)) []:=(Fr.refl _ _ _).new _ _;exact⟨ht,_,ty,hm.fr f1 (by simp) (by simp),by rw[f1.same fp (ar g) (by simp)];exact g,by rw[f1.own fp (ar g)];exact ho,f.trans f1 (by simp) (by simp)⟩
theorem mD.lt (h:mD H0 b fp tag pp cs m cl H):pp<H.length:=by
 obtain⟨ht,o,ty,hm,g,ho,f⟩:=h;obtain⟨_,_,_,_,g1,_⟩:=hm;exact ar g1
theorem Q6 {s:zR}(h:mD H0 b fp tag pp (Fq s) m cl H)(hi:vj s):aF (run G) 40 [pv fp,pv pp] H λv H'=>v= .bool (decide ((bh s m).1.next=6))∧∃gR,mD H0 b fp tag pp (Fq (bh s m).1) (bh s m).2 gR H':=by
 refine Ev.up (t:=λn=>F40 (run G n) n (pv fp) (pv pp) H) ?_ λn=>XZ ..
 have hc:=sN hi;have L:=h.ld;have L0:=h.ld0;have w4:IntKind.i64.wrap (s.gG+4)=Y.wr (s.gG+4):=cG _;have J0: ∀{H1:aa} {s1:zR} {m1:Y.Mm} {cz:Int} (x4 aX bf x6 x7 cL dY x5 fM mA rM sP qC tD Ek:Value),mD H0 b fp tag pp (Fq s1) m1 cz H1→bh s m=(s1,m1)→Ev (λk=>jQ (run G k) k [pv fp,pv pp,x4,aX,bf,x6,x7,cL,dY,x5,fM,mA,rM,sP,qC,tD,Ek] H1) λr=>r.1= .bool (decide ((bh s m).1.next=6))∧∃gR,mD H0 b fp tag pp (Fq (bh s m).1) (bh s m).2 gR r.2:=by
  intro H1 s1 m1 cz x4 aX bf x6 x7 cL dY x5 fM mA rM sP qC tD Ek h1 e2;simp -implicitDefEqProofs only[O8,CC,sS,Nat.reduceAdd];refine Ev.is (Ft h1) ?_
  try simp -implicitDefEqProofs only[sS,Nat.reduceAdd]
  rw[e2];exact Ev.ret ⟨rfl,cz,h1⟩
 simp -implicitDefEqProofs only[F40,Nat.zero_add,L,sS,Nat.reduceAdd];refine Ev.is (V6 5 _) ?_;simp -implicitDefEqProofs only[Nat.zero_add,L0,sS,Nat.reduceAdd];refine Ev.eql (λq0=>?_) (λq0=>?_)<;>try simp -implicitDefEqProofs only[L,Nat.zero_add,w4,sS,Nat.reduceAdd]
 ·refine Ev.call (Fu _ _ _ _) ?_;rintro w H1 ⟨⟨T,rfl⟩,hw,hb⟩;have h1:=h.new ⟨[s.guard,s.place,s.old,s.Av,0].map cv,T,1,false⟩;refine Ev.call (Dp h1.jp hw λ_ a n c e=>by have:=hb a n c e;have:=h.lt;omega) ?_
  rintro v H2 ⟨rfl,fI⟩;have h2:=h1.of fI;obtain⟨r,er⟩: ∃r,r=Y.dC m (.mk (Y.hU s.guard s.place s.old s.Av)):=⟨_,rfl⟩;rw[←er] at h2 ⊢;simp -implicitDefEqProofs only[Nat.zero_add,sS,Nat.reduceAdd];refine Ev.stF h2 (by simp) λH3 h3=>?_
  try simp -implicitDefEqProofs only[Nat.zero_add,sS,Nat.reduceAdd]
  refine Ev.Nc h3 (by simp) λH4 h4=>?_
  by_cases hr:r.1>0
  ·simp -implicitDefEqProofs only[decide_eq_true hr,sS,Nat.reduceAdd];exact J0 _ _ _ _ _ _ _ _ _ _ _ _ _ _ _ (s1:={s with gG:=r.1,next:=1}) h4 (by simp only[bh,q0, ←er];rw[if_pos trivial,if_pos hr])
  ·simp -implicitDefEqProofs only[decide_eq_false hr,sS,Nat.reduceAdd];refine Ev.call (wj (s:={s with gG:=r.1,next:=1}) h4 3) ?_
   intro v H5 h5;exact J0 _ _ _ _ _ _ _ _ _ _ _ _ _ _ _ (s1:={s with gG:=r.1,next:=6,out:=3}) h5 (by simp only[bh,q0, ←er];rw[if_pos trivial,if_neg hr])
 refine Ev.eql (λq1=>?_) (λq1=>?_)<;>try simp -implicitDefEqProofs only[L,Nat.zero_add,w4,sS,Nat.reduceAdd]
 ·refine Ev.Nc h (by simp) λH1 h1=>?_
  have L1:=h1.ld;simp only[List.set_cons_succ,List.set_cons_zero] at h1 L1;simp -implicitDefEqProofs only[L1,Nat.zero_add,sS,Nat.reduceAdd];refine Ev.csF h1 λH2 h2=>?_
  by_cases hr:(Y.dC m (.cs s.place s.old (Y.fP 5 s.gG))).1=1
  ·simp -implicitDefEqProofs only[decide_eq_true hr,sS,Nat.reduceAdd];exact J0 _ _ _ _ _ _ _ _ _ _ _ _ _ _ _ (s1:={s with next:=2}) h2 (by simp only[bh,q1];simp[hr])
  ·simp -implicitDefEqProofs only[decide_eq_false hr,sS,Nat.reduceAdd];refine Ev.call (wj (s:={s with next:=2}) h2 0) ?_
   intro v H5 h5;exact J0 _ _ _ _ _ _ _ _ _ _ _ _ _ _ _ (s1:={s with next:=6,out:=0}) h5 (by simp only[bh,q1];simp[hr])
 refine Ev.eql (λq2=>?_) (λq2=>?_)<;>try simp -implicitDefEqProofs only[L,Nat.zero_add,w4,sS,Nat.reduceAdd]
 ·refine Ev.stF h (by simp) λH1 h1=>?_
  try simp -implicitDefEqProofs only[Nat.zero_add,sS,Nat.reduceAdd]
  refine Ev.Nc h1 (by simp) λH2 h2=>?_
  have L2:=h2.ld;simp only[List.set_cons_succ,List.set_cons_zero] at h2 L2;simp -implicitDefEqProofs only[L2,Nat.zero_add,sS,Nat.reduceAdd];refine Ev.rdF h2 λH3 h3=>?_
  try simp -implicitDefEqProofs only[sS,Nat.reduceAdd]
  refine Ev.neq (λq2'=>?_) (λq2'=>?_)<;>try simp -implicitDefEqProofs only[Nat.zero_add,sS,Nat.reduceAdd]
  ·refine Ev.stF h3 (by simp) λH4 h4=>?_
   try simp -implicitDefEqProofs only[sS,Nat.reduceAdd]
   exact J0 _ _ _ _ _ _ _ _ _ _ _ _ _ _ _ (s1:={s with next:=3,settle:=2}) h4 (by simp[bh,q2,q2'])
  ·exact J0 _ _ _ _ _ _ _ _ _ _ _ _ _ _ _ (s1:={s with next:=3,settle:=1}) h3 (by simp[bh,q2,q2'])
 refine Ev.eql (λq3=>?_) (λq3=>?_)<;>try simp -implicitDefEqProofs only[L,Nat.zero_add,w4,sS,Nat.reduceAdd]
 ·refine Ev.csF h λH1 h1=>?_
  try simp -implicitDefEqProofs only[Nat.zero_add,sS,Nat.reduceAdd]
  refine Ev.Nc h1 (by simp) λH2 h2=>?_
  try simp -implicitDefEqProofs only[sS,Nat.reduceAdd]
  exact J0 _ _ _ _ _ _ _ _ _ _ _ _ _ _ _ (s1:={s with next:=4}) h2 (by simp[bh,q3])
 refine Ev.eql (λq4=>?_) (λq4=>?_)<;>try simp -implicitDefEqProofs only[L,Nat.zero_add,w4,sS,Nat.reduceAdd]
 ·refine Ev.rdF h λH1 h1=>?_
  try simp -implicitDefEqProofs only[Nat.zero_add,sS,Nat.reduceAdd]
  refine Ev.stF h1 (by simp) λH2 h2=>?_
  try simp -implicitDefEqProofs only[Nat.zero_add,sS,Nat.reduceAdd]
  refine Ev.Nc h2 (by simp) λH3 h3=>?_
  try simp -implicitDefEqProofs only[sS,Nat.reduceAdd]
  exact J0 _ _ _ _ _ _ _ _ _ _ _ _ _ _ _ (s1:={s with next:=5,settle:=m.at (Y.wr (s.gG+4))}) h3 (by simp[bh,q4])
 refine Ev.eql (λq5=>?_) (λq5=>?_)<;>try simp -implicitDefEqProofs only[L,Nat.zero_add,w4,sS,Nat.reduceAdd]
 ·refine Ev.eql (λq6=>?_) (λq6=>?_)<;>try simp -implicitDefEqProofs only[L,Nat.zero_add,sS,Nat.reduceAdd]
  ·refine Ev.csF h λH1 h1=>?_
   try simp -implicitDefEqProofs only[sS,Nat.reduceAdd]
   refine Ev.call (wj h1 1) ?_;intro v H5 h5;exact J0 _ _ _ _ _ _ _ _ _ _ _ _ _ _ _ (s1:={s with next:=6,out:=1}) h5 (by simp[bh,q5,q6])
  ·refine Ev.csF h λH1 h1=>?_
   try simp -implicitDefEqProofs only[sS,Nat.reduceAdd]
   refine Ev.call (wj h1 2) ?_;intro v H5 h5;exact J0 _ _ _ _ _ _ _ _ _ _ _ _ _ _ _ (s1:={s with next:=6,out:=2}) h5 (by simp[bh,q5,q6])
 ·exact J0 _ _ _ _ _ _ _ _ _ _ _ _ _ _ _ (s1:=s) h (by unfold bh;rw[if_neg q0,if_neg q1,if_neg q2,if_neg q3,if_neg q4,if_neg q5])
theorem adR (g p x y:Int):aE Tryz.prog 133 [(1,cv g),(2,cv p),(3,cv x),(4,cv y)]=some (.agg (Fq ⟨0,g,p,x,y,0,0,0⟩).toArray):=by kernel_rfl
theorem acq (g p x y:Int)(H:aa):dK 133 (.agg (Fq ⟨0,g,p,x,y,0,0,0⟩).toArray) H=some (pv H.length,H.new ⟨Fq ⟨0,g,p,x,y,0,0,0⟩,133,1,false⟩):=by
 simp[dK,Value.cells,aC,aS]
theorem UD (g p x y:Int):aF (run G) 39 [cv g,cv p,cv x,cv y] H λv H'=>v=pv H.length∧H'=H.new ⟨Fq ⟨0,g,p,x,y,0,0,0⟩,133,1,false⟩:=by
 refine Ev.up (t:=λn=>F39 (run G n) n (cv g) (cv p) (cv x) (cv y) H) ?_ λn=>XV ..
 simp -implicitDefEqProofs only[F39,adR,acq,sS,Nat.reduceAdd];exact Ev.ret ⟨rfl,rfl⟩
theorem aaa {s:zR}(h:YR H o yp xp pp mp mP m cl th L)(hf:PF H o fp tag (Fq s))(ht:jW tag=true)(hi:vj s):aF (run G) 40 [pv fp,pv pp] H λv H'=>v= .bool (decide ((bh s mP).1.next=6))∧∃o' gR,Fr H o H' o' [-90, -91,tag]∧YR H' o' yp xp pp mp (bh s mP).2 m gR th L∧PF H' o' fp tag (Fq (bh s mP).1):=by
 refine(Q6 (mD.start h hf (wh ht).1) hi).mono ?_;rintro v H' ⟨rfl,gR,hj⟩;obtain⟨o',hm,zV,f⟩:=hj.back;exact⟨rfl,o',gR,f,h.adP f ht hm,zV⟩
theorem UE {tf tg:Int}{t u u':Y.Tr eE}{d:Bool}{r:eE}{rec:Int}(h:YR H o yp xp pp mp mP m cl th L)(hg:gy H o gp tf tg (.ex t) T d r rec)(dH:FB (.ex t) T d r rec)(hT:T.length<1048576)(ht:FT tf tg)(h1:jW tf=true)(h2:jW tg=true)(mq:Y.after t T=u)(hl:(∃a,u= .ret a∧u'=u∧m'=m)∨(∃q k,u= .ask q k∧Y.norm (k (Y.dC m q).1)=u'∧m'=(Y.dC m q).2)):
  aF (run G) 20 [pv gp,pv mp] H λv H'=>∃o' T' d' r' ku,v= .bool d'∧Fr H o H' o' [tf,tg, -70, -71]∧YR H' o' yp xp pp mp mP m' cl th L∧gy H' o' gp tf tg (.ex t) T' d' r' ku∧FB (.ex t) T' d' r' ku∧Y.after t T'=u'∧T'.length≤T.length+1∧((∃a,u= .ret a∧T'=T)∨∃q k,u= .ask q k∧T'=T++[(Y.dC m q).1]):=by
 refine(Z8 h hg dH hT ht h1 h2).mono ?_;rintro v H' ⟨o',T',m1,d',r',ku,rfl,f,hy,hg',Mq,hs⟩;have hlen:=hs.len;obtain⟨k1,k2⟩:=dH.done mq;rcases hl with⟨a,e1,e2,e3⟩|⟨q,k,e1,e2,e3⟩
 ·obtain⟨ed,_⟩:=k1 a e1;rcases hs with⟨_,rfl,rfl⟩|⟨h,_⟩
  ·subst e2 e3;exact⟨o',_,d',r',ku,rfl,f,hy,hg',Mq,mq,hlen,.inl ⟨a,e1,rfl⟩⟩
  ·rw[ed] at h;cases h
 ·have ed:=k2 q k e1;rcases hs with⟨h,_⟩|⟨_,q',k',ea,rfl,rfl⟩
  ·rw[ed] at h;cases h
  ·rw[mq,e1] at ea;cases ea;subst e3;refine⟨o',_,d',r',ku,rfl,f,hy,hg',Mq,?_,hlen,.inr ⟨_,_,e1,rfl⟩⟩;rw[Y.ze,mq,e1];exact e2
theorem ft1:FT (-301) (-302):=⟨by decide,by decide,by decide⟩
end
end Go.Proofs.YtgfgglponbmgmaaGreat.Fun
end
