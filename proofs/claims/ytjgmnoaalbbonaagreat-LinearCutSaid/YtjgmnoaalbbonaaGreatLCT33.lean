/- Texts of the proof of linearCut_holds, put together by a small program of ours (names shortened, spaces taken out). No condition beyond the given statement. -/
import Derived.Test.YtjgmnoaalbbonaaGreatLCT19
import Derived.Test.YtjgmnoaalbbonaaGreatLCT22
import Derived.Test.YtjgmnoaalbbonaaGreatLCT32
import Derived.Test.YtjgmnoaalbbonaaGreatLCT18
import Derived.Test.YtjgmnoaalbbonaaGreatLCT20
import Derived.Test.YtjgmnoaalbbonaaGreatLCT21
set_option linter.unusedVariables false
set_option linter.unusedSimpArgs false
set_option linter.unnecessarySimpa false
noncomputable section
section
namespace Go.Proofs.YtjgmnoaalbbonaaGreat.Fun
open Go Go.RowKit Go.Proofs.YtjgmnoaalbbonaaGreatA.Am
set_option maxRecDepth 10000
section
variable {G:ae} {H H':aa} {o o':aj} {p m c:Nat} {K K':aa→aj→Prop} {t q:Int} {x:Value} {l:PL} {n i:Nat} {cs:List Value} {T:TypeId}
def Cl (i:Nat)(cs:List Value)(T:TypeId)(H:aa)(o:aj):Prop:=H.get i=some ⟨cs,T,1,false⟩∧o i= -9
theorem Cl.fr {ps:List Int}(h:Cl i cs T H o)(f:Fr H o H' o' ps)(hp:(-9:Int) ∉ ps):Cl i cs T H' o':=
 ⟨by rw[f.same i (an h.1) (by rw[h.2];exact hp)];exact h.1,by rw[f.own i (an h.1)];exact h.2⟩
theorem Cl.new {c:eu}(h:Cl i cs T H o):Cl i cs T (H.new c) (o.up H.length (-9)):=h.fr ((Fr.refl H o []).new _ _) (by simp)
theorem Cl.put {j:Nat}{c:eu}(h:Cl i cs T H o)(dX:i≠j):Cl i cs T (H.put j c) o:=⟨by rw[aS dX];exact h.1,h.2⟩
theorem Cl.self (h:Cl i cs T H o){ds:List Value}:Cl i ds T (H.put i ⟨ds,T,1,false⟩) o:=⟨aD h.1,h.2⟩
theorem Cl.made:Cl H.length cs T (H.new ⟨cs,T,1,false⟩) (o.up H.length (-9)):=⟨ay,aH⟩
theorem J.rL (h:J K p m H)(cs:List Value)(T:TypeId)(es:Nat)(hK':cI [(p:Int)] K')(k: ∀o,K H o→Fr H o (H.new ⟨cs,T,es,false⟩) (o.up H.length (-9)) []→K' (H.new ⟨cs,T,es,false⟩) (o.up H.length (-9))):J K' p m (H.new ⟨cs,T,es,false⟩):=by
 obtain⟨hK,o,hr,hk⟩:=h;have f:Fr H o (H.new ⟨cs,T,es,false⟩) (o.up H.length (-9)) []:=(Fr.refl H o []).new _ _;exact⟨hK',_,hr.fr f (by simp) (by simp) (by simp),k o hk f⟩
theorem J.Hl (h:J K p m H){c:eu}(hc: ∀o,K H o→Cl i cs T H o)(hK':cI [(p:Int)] K')(k: ∀o,K H o→K' (H.put i c) o):J K' p m (H.put i c):=by
 obtain⟨hK,o,hr,hk⟩:=h;have f:Fr H o (H.put i c) o [-9]:=(Fr.refl H o [-9]).put λ_=>by simp[(hc o hk).2]
 exact⟨hK',_,hr.fr f (by simp) (by simp) (by simp),k o hk⟩
theorem J.new (h:J K p m H)(c:eu):J K p m (H.new c):=h.DR λo=>⟨o.up H.length (-9),(Fr.refl H o []).new _ _⟩
theorem nj (l:List Int)(T:TypeId):iz (H.new ⟨l.map cv,T,1,false⟩) (.slice (some ⟨H.length,0,none⟩) l.length l.length) l:=(qd.new H o0 (-9) T l).ints.1
theorem IV {l:List Int}(h:iz H x l)(c:eu):iz (H.new c) x l:=h.keep λi b e dX=>by
 rcases h with⟨e1,e2⟩|⟨j,off,cc,e1,hb⟩
 ·exact absurd e2 dX
 ·obtain⟨bb,g1,_⟩:=hb dX;rw[e1] at e;cases e;exact cD (an g1)
abbrev rc (r:dA):List Value:=[cv r.qY,.bool r.found,cv r.key,cv r.value,cv r.n,ax]
abbrev oQ (op:kC):List Value:=[cv op.kind,cv op.key,cv op.value]
theorem IW (h:J K p m H):bA (run G) 168 [] H λv H'=>v=dL (fN 8) ax∧J K p m H':=by
 refine Ev.up (t:=λk=>XK (run G k) k H) ?_ λk=>Sm ..
 simp -implicitDefEqProofs only[XK,aO,sS,Nat.reduceAdd];have g:(H.new ⟨[cv 0,.bool false,cv 0,cv 0,cv 0,ax],45,1,false⟩).get H.length=some ⟨[cv 0,.bool false,cv 0,cv 0,cv 0,ax],45,1,false⟩:=ay;have kW:=tD H.length (fN 8) (s:=ax) rfl _ g rfl;have iX:=jJ H.length (fN 8) (s:=ax) (t:=45) _ (aD g);simp -implicitDefEqProofs only[tF,kW,iX,sS,Nat.reduceAdd];have hj:=(h.new ⟨[cv 0,.bool false,cv 0,cv 0,cv 0,ax],45,1,false⟩);refine Ev.ret ⟨rfl,?_⟩;obtain⟨hK,o,hr,hk⟩:=h;have f:Fr H o ((H.new ⟨[cv 0,.bool false,cv 0,cv 0,cv 0,ax],45,1,false⟩).put H.length ⟨[cv (fN 8).qY,.bool (fN 8).found,cv (fN 8).key,cv (fN 8).value,cv (fN 8).n,ax],45,1,false⟩) (o.up H.length (-9)) []:=((Fr.refl H o []).new _ _).put λhh=>absurd hh (by omega)
 exact⟨hK,_,hr.fr f (by simp) (by simp) (by simp),hK _ _ _ _ hk (f.wk (by simp))⟩
theorem aa5 (a b:Int)(H:aa):Nd (cv a) (cv b) H=some (cv (if b>a then b else a),H):=rfl
theorem SL (h:J K p m H)(hM:m≤2147483648)(op:kC)(w q:Int)(leaf there:Bool):bA (run G) 170 [pv p,iO op,cv w,cv q,.bool leaf,.bool there] H (Fl K p m):=by
 refine Ev.up (t:=λk=>WX (run G k) k (pv p) (iO op) (cv w) (cv q) (.bool leaf) (.bool there) H) ?_ λk=>RN ..
 have hK:=h.1;obtain⟨i0,ei⟩: ∃i,i=H.length:=⟨_,rfl⟩;obtain⟨H1,e1⟩: ∃z,z=H.new ⟨oQ op,39,1,false⟩:=⟨_,rfl⟩;have kc:J (λH o=>K H o∧Cl i0 (oQ op) 39 H o) p m H1:=by
  rw[e1];refine h.rL _ _ 1 (hK.and λH o H' o' a f=>a.fr f (by simp)) λo hk f=>⟨hK _ _ _ _ hk (f.wk (by simp)),?_⟩
  rw[ei];exact Cl.made
 have jr: ∀{m':Nat} {H':aa},J (λH o=>K H o∧Cl i0 (oQ op) 39 H o) p m' H'→J K p m' H':=λhj=>hj.mono hK λo a=>a.1
 have L0: ∀{m':Nat} {H':aa},J (λH o=>K H o∧Cl i0 (oQ op) 39 H o) p m' H'→aq (.pointer (some ⟨i0,0,none⟩)) H'=some (cv op.kind)∧aq (.pointer (some ⟨i0,1,none⟩)) H'=some (cv op.key)∧aq (.pointer (some ⟨i0,2,none⟩)) H'=some (cv op.value):=λhj=>by
  obtain⟨_,o,_,_,g,_⟩:=hj;exact⟨ak i0 0 _ g,ak i0 1 _ g,ak i0 2 _ g⟩
 obtain⟨a0,a1,a2⟩:=L0 kc;have bx:=vA op H;rw[←ei, ←e1] at bx;simp -implicitDefEqProofs only[WX,bx,a0,a1,a2,sS,Nat.reduceAdd];refine Ev.eql (λhq=>?_) (λhq=>?_)<;>try simp -implicitDefEqProofs only[a0,a1,a2,sS,Nat.reduceAdd]
 ·refine Ev.wd (bU kc) λw Hz hj=>?_
  refine Ev.dq (dc hj) λz zb Hz mz hj hm=>?_
  have DV:=jr hj
  try simp -implicitDefEqProofs only[sS,Nat.reduceAdd]
  repeat' (first| (with_reducible exact Ev.ret ⟨_,_,rfl,_,by assumption,by omega⟩)| ((with_reducible first|refine Ev.lss (λhq=>?_) (λhq=>?_)|refine Ev.gtr (λhq=>?_) (λhq=>?_)|refine Ev.leq (λhq=>?_) (λhq=>?_)|refine Ev.geq (λhq=>?_) (λhq=>?_)|refine Ev.eql (λhq=>?_) (λhq=>?_)|refine Ev.neq (λhq=>?_) (λhq=>?_)|refine Ev.off ‹_› (λhq=>?_) (λhq=>?_)|refine Ev.az (dj _) λz=>?_ |refine Ev.az (gT _) λz=>?_ |refine Ev.az (cG _ _) λz=>?_ |refine Ev.az (bH _ _ _) λz=>?_ |refine Ev.az (hX _ _) λz=>?_ |refine Ev.az (cX _) λz=>?_ |refine Ev.az (de _ _ _ _) λz=>?_ |refine Ev.num (cE ‹_› _) λz Hz mz hj hm=>?_ |refine Ev.num (eM ‹_› _ _) λz Hz mz hj hm=>?_ |refine Ev.num (eI ‹_› _) λz Hz mz hj hm=>?_ |refine Ev.num (fl ‹_› _) λz Hz mz hj hm=>?_ |refine Ev.num (ea ‹_› _ _) λz Hz mz hj hm=>?_ |refine Ev.num (fX ‹_› _ _ _ _) λz Hz mz hj hm=>?_ |refine Ev.bool (eN ‹_› _ _ _) λz Hz mz hj hm=>?_ |refine Ev.un (cz ‹_› _ _) λz Hz mz hj hm=>?_ |refine Ev.un (fj ‹_› _) λz Hz mz hj hm=>?_ |refine Ev.dq (dc ‹_›) λz zb Hz mz hj hm=>?_ |refine Ev.dq (fW ‹_› _) λz zb Hz mz hj hm=>?_ |refine Ev.jt (df ‹_› _ _) λz zb Hz mz hj hm=>?_ |refine Ev.num (hY _ ‹_› _) λz Hz mz hj hm=>?_ |refine Ev.dq (tM ‹_› (by omega) _ _) λz zb Hz mz hj hm=>?_ |refine Ev.bool (pU ‹_› (by omega) _ _ _ _ _) λz Hz mz hj hm=>?_ |refine Ev.bool (n6 ‹_› (by omega) _ _ _ _) λz Hz mz hj hm=>?_ |refine Ev.bool (qA ‹_› (by omega) _) λz Hz mz hj hm=>?_ |refine Ev.bool (wu ‹_› (by omega) _ _ _) λz Hz mz hj hm=>?_ |refine Ev.wd (cA ‹_› _ _ _ _) λw Hz hj=>?_ |refine Ev.wd (bU ‹_›) λw Hz hj=>?_ |refine Ev.wd (ct ‹_› _ _) λw Hz hj=>?_ |refine Ev.wd (bz ‹_› _ _ _) λw Hz hj=>?_ |refine Ev.nh ‹_› λHz hj=>?_ |refine Ev.ni ‹_› λHz hj=>?_ |refine Ev.mE ‹_› λz=>?_ |refine Ev.br (λhq=>?_) (λhq=>?_))<;>try simp -implicitDefEqProofs only[sS,Nat.reduceAdd]))
 refine Ev.wd (ct kc _ _) λw1 Hz hj=>?_
 refine Ev.dq (dc hj) λz zb Hz mz hj hm=>?_
 try simp -implicitDefEqProofs only[sS,Nat.reduceAdd]
 refine Ev.az (hX _ _) λz2=>?_
 have DV:=jr hj;cases zb<;>simp -implicitDefEqProofs only[sS,Nat.reduceAdd]
 ·exact Ev.ret ⟨_,_,rfl,_,DV,by omega⟩
 cases leaf<;>simp -implicitDefEqProofs only[sS,Nat.reduceAdd]
 ·exact Ev.ret ⟨_,_,rfl,_,DV,by omega⟩
 cases there<;>simp -implicitDefEqProofs only[sS,Nat.reduceAdd]
 ·have J0: ∀{m1:Nat} {H1:aa} {y:Value} (l:List Int) (aK aJ bG aP aT aX aU eS bn iG:Value),J (λH o=>K H o∧Cl i0 (oQ op) 39 H o) p m1 H1→iz H1 y l→l.length≤10→m1≤m→Ev (λk=>vY (run G k) k [pv p,iO op,cv w,cv q,.bool true,.bool false,aK,aJ,pv i0,bG,aP,aT,aX,aU,eS,bn,iG,y] H1) λr=>Fl K p m r.1 r.2:=by
   intro m1 H1 y l aK aJ bG aP aT aX aU eS bn iG hj hy hl hm;obtain⟨a0,a1,a2⟩:=L0 hj;simp -implicitDefEqProofs only[KK,yI,a1,aa5,DF,sS,Nat.reduceAdd];refine Ev.wd (n5 (hj.new _) _ (nj [_] _) (IV hy _) (by simp;omega)) λw1 Hz hj=>?_
   refine Ev.dq (dc hj) λz zb Hz mz hj hm=>?_
   have DV:=jr hj
   try simp -implicitDefEqProofs only[sS,Nat.reduceAdd]
   refine Ev.az (hX _ _) λz2=>?_
   try simp -implicitDefEqProofs only[sS,Nat.reduceAdd]
   exact Ev.ret ⟨_,_,rfl,_,DV,by omega⟩
  obtain⟨b0,b1,b2⟩:=L0 (hj.new ⟨[cv w,cv z2],2,1,false⟩);simp -implicitDefEqProofs only[Yp,b0,b1,sS,Nat.reduceAdd];refine Ev.lss (λhq=>?_) (λhq=>?_)<;>try simp -implicitDefEqProofs only[Yp,sS,Nat.reduceAdd]
  ·exact J0 [z2,w] _ _ _ _ _ _ _ _ _ _ ((hj.new _).new _) (nj [z2,w] _) (by simp) (by omega)
  ·exact J0 [w,z2] _ _ _ _ _ _ _ _ _ _ (hj.new _) (nj [w,z2] _) (by simp) (by omega)
 ·exact Ev.ret ⟨_,_,rfl,_,DV,by omega⟩
end
section
variable {G:ae} {H H':aa} {o o':aj} {p m c:Nat} {K K':aa→aj→Prop} {t q:Int} {x:Value} {l:PL} {n i:Nat} {cs:List Value} {T:TypeId}
structure KL (B:aa) (b:aj) (p i0 i1 i2:Nat) (op:kC) (c1:List Value) (r2:dA) (H:aa) (o:aj):Prop where
 fr:Fr B b H o [(p:Int)]
 k0:Cl i0 (oQ op) 39 H o
 k1:Cl i1 c1 45 H o
 k2:Cl i2 (rc r2) 45 H o
structure KLd (B:aa) (i0 i1 i2:Nat):Prop where
 a:i0=B.length
 b:i1=B.length+1
 c:i2=B.length+2
section
variable {B:aa} {b:aj} {i0 i1 i2:Nat} {op:kC} {c1:List Value} {r2:dA}
theorem KL.iK:cI [(p:Int)] (KL B b p i0 i1 i2 op c1 r2):=λH o H' o' h f=>⟨h.fr.tr f,h.k0.fr f (by simp),h.k1.fr f (by simp),h.k2.fr f (by simp)⟩
theorem KL.oR (h:J (KL B b p i0 i1 i2 op c1 r2) p m H):aq (.pointer (some ⟨i0,0,none⟩)) H=some (cv op.kind)∧aq (.pointer (some ⟨i0,1,none⟩)) H=some (cv op.key)∧cK 3 (pv i0) H=some (iO op)∧aq (.pointer (some ⟨i2,1,none⟩)) H=some (.bool r2.found)∧cK 6 (pv i2) H=some (dL r2 ax):=by
 obtain⟨_,o,_,hg⟩:=h;exact⟨ak i0 0 _ hg.k0.1,ak i0 1 _ hg.k0.1,Pc hg.k0.1,ak i2 1 _ hg.k2.1,jJ _ _ _ hg.k2.1⟩
theorem KL.fin (hd:KLd B i0 i1 i2)(h:J (KL B b p i0 i1 i2 op c1 r2) p m H)(hl:c1.length=6)(r:dA): ∃H2,bS 6 (pv i1) (dL r ax) H=some (undef,H2)∧cK 6 (pv i1) H2=some (dL r ax)∧J (KL B b p i0 i1 i2 op (rc r) r2) p m H2:=by
 obtain⟨_,o,hr,hg⟩:=id h;obtain⟨e0,e1,e2⟩:=hd;refine⟨_,tD i1 r (s:=ax) rfl H hg.k1.1 hl,jJ _ _ _ (aD hg.k1.1),h.Hl (λo hg=>hg.k1) KL.iK λo hg=>⟨hg.fr.put λhh=>by omega,hg.k0.put (by omega),hg.k1.self,hg.k2.put (by omega)⟩⟩
theorem KL.Pz (hd:KLd B i0 i1 i2)(h:J (KL B b p i0 i1 i2 op c1 r2) p m H)(r:dA): ∃H2,bS 6 (pv i2) (dL r ax) H=some (undef,H2)∧J (KL B b p i0 i1 i2 op c1 r) p m H2:=by
 obtain⟨_,o,hr,hg⟩:=id h;obtain⟨e0,e1,e2⟩:=hd;refine⟨_,tD i2 r (s:=ax) rfl H hg.k2.1 rfl,h.Hl (λo hg=>hg.k2) KL.iK λo hg=>⟨hg.fr.put λhh=>by omega,hg.k0.put (by omega),hg.k1.put (by omega),hg.k2.self⟩⟩
end
abbrev DI (K:aa→aj→Prop)(p c:Nat):Value→aa→Prop:=λv H'=>∃r b,v= .tuple #[dL r ax,.bool b]∧r.list=[]∧∃m',J K p m' H'∧m'≤c
theorem ac9 (a b:Int):aE Tryz.prog 42 [(0,cv a),(1,cv b)]=some (.agg #[cv a,cv b]):=zN a b
theorem aa6 (h:J K p m H)(hM:m≤2147483648)(hx: ∀H o,K H o→Fp H o q x n)(hq:q≠(p:Int))(hn:n≤2147483648)(op:kC)(nn s w:Int):
  bA (run G) 169 [pv p,iO op,cv nn,cv s,cv w,x] H (DI K p m):=by
 refine Ev.up (t:=λk=>Wy (run G k) k (pv p) (iO op) (cv nn) (cv s) (cv w) x H) ?_ λk=>RD ..
 obtain⟨hK,b,hr,hk⟩:=id h;have hxB:=hx _ _ hk;have Zz: ∀{H':aa} {o':aj},Fr H b H' o' [(p:Int)]→Fp H' o' q x n:=λf=>hxB.fr f (by simpa using hq)
 obtain⟨i0,e0⟩: ∃i,i=H.length:=⟨_,rfl⟩;obtain⟨i1,e1⟩: ∃i,i=H.length+1:=⟨_,rfl⟩;obtain⟨i2,e2⟩: ∃i,i=H.length+2:=⟨_,rfl⟩;have hd:KLd H i0 i1 i2:=⟨e0,e1,e2⟩;obtain⟨H1,hU⟩: ∃z,z=H.new ⟨oQ op,39,1,false⟩:=⟨_,rfl⟩;have l1:H1.length=H.length+1:=by rw[hU,aW]
 obtain⟨H2,iL⟩: ∃z,z=H1.new ⟨rc bM,45,1,false⟩:=⟨_,rfl⟩;have l2:H2.length=H.length+2:=by rw[iL,aW,l1]
 obtain⟨H3,ou⟩: ∃z,z=H2.new ⟨rc bM,45,1,false⟩:=⟨_,rfl⟩;have kc:J (λH' o=>Fr H b H' o [(p:Int)]∧Cl i0 (oQ op) 39 H' o) p m H1:=by
  rw[hU];have SM:J (λH' o=>Fr H b H' o [(p:Int)]) p m H:=⟨cI.base (by simp),b,hr,Fr.refl _ _ _⟩
  refine SM.rL _ _ 1 ((cI.base (by simp)).and λH o H' o' a f=>a.fr f (by simp)) λo hk f=>⟨hk.new _ _,?_⟩
  rw[e0];exact Cl.made
 have jb:J (λH' o=>(Fr H b H' o [(p:Int)]∧Cl i0 (oQ op) 39 H' o)∧Cl i1 (rc bM) 45 H' o) p m H2:=by
  rw[iL];refine kc.rL _ _ 1 (kc.1.and λH o H' o' a f=>a.fr f (by simp)) λo hk f=>⟨⟨hk.1.new _ _,hk.2.new⟩,?_⟩
  rw[e1, ←l1];exact Cl.made
 have kg:J (KL H b p i0 i1 i2 op (rc bM) bM) p m H3:=by
  rw[ou];refine jb.rL _ _ 1 KL.iK λo hk f=>⟨hk.1.1.new _ _,hk.1.2.new,hk.2.new,?_⟩
  rw[e2, ←l2];exact Cl.made
 obtain⟨H4,g4,qX⟩:=KL.Pz hd kg bM;have bx:=vA op H;rw[←e0, ←hU] at bx;have n1:aO H1 45 1 [cv 0,.bool false,cv 0,cv 0,cv 0,ax]=(pv i1,H2):=by rw[iL,e1, ←l1];rfl
 have n2:aO H2 45 1 [cv 0,.bool false,cv 0,cv 0,cv 0,ax]=(pv i2,H3):=by rw[ou,e2, ←l2];rfl
 have jr: ∀{c1:List Value} {r2:dA} {m':Nat} {H':aa},J (KL H b p i0 i1 i2 op c1 r2) p m' H'→J K p m' H':=λhj=>hj.mono hK λo' hg=>hK _ _ _ _ hk hg.fr
 have J2: ∀{m1:Nat} {H1:aa} {r2:dA} (leaf:Bool) (q Zo:Int) (aJ bW cr ij bn mF aU xP mB ja:Value),J (KL H b p i0 i1 i2 op (rc bM) r2) p m1 H1→m1≤m→r2.list=[]→Ev (λk=>ql (run G k) k [pv p,iO op,cv nn,cv s,cv w,x,pv i1,aJ,.bool leaf,bW,cv q,pv i0,cr,pv i2,ij,bn,mF,aU,xP,cv Zo,mB,ja] H1) λr=>DI K p m r.1 r.2:=by
  intro m1 H1 r2 leaf q Zo aJ bW cr ij bn mF aU xP mB ja hj hm hl;obtain⟨a0,a1,a2,a3,a4⟩:=KL.oR hj;obtain⟨H5,g5,g6,q9⟩:=KL.fin hd hj rfl r2;simp -implicitDefEqProofs only[KC,yz,a4,sS,Nat.reduceAdd];refine Ev.eql (λhq=>?_) (λhq=>?_)<;>try simp -implicitDefEqProofs only[g5,g6,sS,Nat.reduceAdd]
  ·exact Ev.ret ⟨_,_,rfl,hl,_,jr q9,hm⟩
  ·exact Ev.ret ⟨_,_,rfl,hl,_,jr q9,hm⟩
 have Y7: ∀{m1:Nat} {H1:aa} {r2:dA},J (KL H b p i0 i1 i2 op (rc bM) r2) p m1 H1→m1≤m→Ev (λk=>af (run G k 168 [] H1) λy Hy=>af (bS 6 (pv i1) y Hy) λ_ Hy=>af (pS (cK 6 (pv i1) Hy) Hy) λr0 _=>some (Value.tuple #[r0,.bool true],Hy)) λr=>DI K p m r.1 r.2:=by
  intro m1 H1 r2 hj hm;refine Ev.call (IW hj) ?_;rintro v H5 ⟨rfl,hj⟩;obtain⟨H6,g5,g6,q9⟩:=KL.fin hd hj rfl (fN 8);simp -implicitDefEqProofs only[g5,g6,sS,Nat.reduceAdd];exact Ev.ret ⟨_,_,rfl,rfl,_,jr q9,hm⟩
 have J1: ∀{m1:Nat} {H1:aa} {r2:dA} (leaf:Bool) (q Zo:Int) (aJ bW cr ij bn mF aU xP mB ja:Value),J (KL H b p i0 i1 i2 op (rc bM) r2) p m1 H1→m1≤m→r2.list=[]→Ev (λk=>nU (run G k) k [pv p,iO op,cv nn,cv s,cv w,x,pv i1,aJ,.bool leaf,bW,cv q,pv i0,cr,pv i2,ij,bn,mF,aU,xP,cv Zo,mB,ja] H1) λr=>DI K p m r.1 r.2:=by
  intro m1 H1 r2 leaf q Zo aJ bW cr ij bn mF aU xP mB ja hj hm hl;obtain⟨a0,a1,a2,a3,a4⟩:=KL.oR hj;simp -implicitDefEqProofs only[KD,yA,sS,Nat.reduceAdd];have T5: ∀(mB ja:Value),Ev (λk=>af (run G k 143 [pv p,x] H1) λ_ Hy=>ql (run G k) k [pv p,iO op,cv nn,cv s,cv w,x,pv i1,aJ,.bool leaf,bW,cv q,pv i0,cr,pv i2,ij,bn,mF,aU,xP,cv Zo,mB,ja] Hy) λr=>DI K p m r.1 r.2:=by
   intro mB ja;refine Ev.un (SK hj (by omega) (λH o hg=>Zz hg.fr) hn) λv Hz mz hj hm=>?_
   exact J2 _ _ _ _ _ _ _ _ _ _ _ _ _ hj (by omega) hl
  refine Ev.eql (λhq=>?_) (λhq=>?_)<;>try simp -implicitDefEqProofs only[sS,Nat.reduceAdd]
  ·exact Y7 hj hm
  refine Ev.eql (λhq=>?_) (λhq=>?_)<;>try simp -implicitDefEqProofs only[a0,sS,Nat.reduceAdd]
  ·refine Ev.neq (λhq=>?_) (λhq=>?_)<;>try simp -implicitDefEqProofs only[a3,sS,Nat.reduceAdd]
   ·exact T5 _ _
   ·cases hf:r2.found<;>simp -implicitDefEqProofs only[sS,Nat.reduceAdd]
    ·exact T5 _ _
    ·exact J2 _ _ _ _ _ _ _ _ _ _ _ _ _ hj hm hl
  ·exact J2 _ _ _ _ _ _ _ _ _ _ _ _ _ hj hm hl
 have J0: ∀{m1:Nat} {H1:aa} {r2:dA} (leaf:Bool) (q:Int) (aJ bW cr ij bn mF aU xP bF mB ja:Value),J (KL H b p i0 i1 i2 op (rc bM) r2) p m1 H1→m1≤m→r2.list=[]→Ev (λk=>qm (run G k) k [pv p,iO op,cv nn,cv s,cv w,x,pv i1,aJ,.bool leaf,bW,cv q,pv i0,cr,pv i2,ij,bn,mF,aU,xP,bF,mB,ja] H1) λr=>DI K p m r.1 r.2:=by
  intro m1 H1 r2 leaf q aJ bW cr ij bn mF aU xP bF mB ja hj hm hl;obtain⟨a0,a1,a2,a3,a4⟩:=KL.oR hj;obtain⟨H5,g5,g6,q9⟩:=KL.fin hd hj rfl r2;have Em:Ev (λk=>af (some (dL r2 ax,H1)) λy Hy=>af (bS 6 (pv i1) y Hy) λ_ Hy=>af (pS (cK 6 (pv i1) Hy) Hy) λr0 _=>some (Value.tuple #[r0,.bool true],Hy)) λr=>DI K p m r.1 r.2:=by
   simp -implicitDefEqProofs only[g5,g6,sS,Nat.reduceAdd];exact Ev.ret ⟨_,_,rfl,hl,_,jr q9,hm⟩
  simp -implicitDefEqProofs only[g5,g6,sS,Nat.reduceAdd] at Em;have Fq: ∀(ij:Value),Ev (λk=>af (run G k 170 [pv p,iO op,cv w,cv q,.bool leaf,.bool r2.found] H1) λy Hy=>af (bP 0 y Hy) λdD Hy=>af (bP 1 y Hy) λef Hy=>af (pS (hZ .not ef) Hy) λdW Hy=>aR dW (af (run G k 168 [] Hy) λy Hy=>af (bS 6 (pv i1) y Hy) λ_ Hy=>af (pS (cK 6 (pv i1) Hy) Hy) λr0 _=>some (Value.tuple #[r0,.bool true],Hy))
    (af (bS 1 (.pointer (some ⟨p,8,none⟩)) (cv 0) Hy) λ_ Hy=>af (run G k 133 [pv p,cv (IntKind.i64.wrap (nn+2)),cv s,cv w,dD] Hy) λjG Hy=>af (pS (aq (.pointer (some ⟨p,8,none⟩)) Hy) Hy) λGC Hy=>af (pS (ai Tryz.prog .gtr 3 GC (cv 0)) Hy) λCz Hy=>aR Cz (af (pS (aq (.pointer (some ⟨p,8,none⟩)) Hy) Hy) λAq Hy=>af (bS 1 (.pointer (some ⟨p,9,none⟩)) Aq Hy) λ_ Hy=>nU (run G k) k [pv p,iO op,cv nn,cv s,cv w,x,pv i1,aJ,.bool leaf,bW,cv q,pv i0,cr,pv i2,ij,ef,dW,dD,Cz,jG,mB,ja] Hy)
     (nU (run G k) k [pv p,iO op,cv nn,cv s,cv w,x,pv i1,aJ,.bool leaf,bW,cv q,pv i0,cr,pv i2,ij,ef,dW,dD,Cz,jG,mB,ja] Hy))) λr=>DI K p m r.1 r.2:=by
   intro ij;refine Ev.dq (SL hj (by omega) _ _ _ _ _) λz zb Hz mz hj hm=>?_
   cases zb<;>simp -implicitDefEqProofs only[sS,Nat.reduceAdd]
   ·exact Y7 hj (by omega)
   refine Ev.nh hj λHz hj=>?_
   refine Ev.num (fX hj _ _ _ _) λz Hz mz hj hm=>?_
   refine Ev.mE hj λzr=>?_
   refine Ev.gtr (λhq=>?_) (λhq=>?_)<;>try simp -implicitDefEqProofs only[sS,Nat.reduceAdd]
   ·refine Ev.mE hj λzr=>?_
    refine Ev.ni hj λHz hj=>?_
    exact J1 _ _ _ _ _ _ _ _ _ _ _ _ _ hj (by omega) hl
   ·exact J1 _ _ _ _ _ _ _ _ _ _ _ _ _ hj (by omega) hl
  simp -implicitDefEqProofs only[KF,yB,sS,Nat.reduceAdd];refine Ev.off hj (λhq=>?_) (λhq=>?_)<;>try simp -implicitDefEqProofs only[a0,sS,Nat.reduceAdd]
  ·(try simp -implicitDefEqProofs only[a4,g5,g6,sS,Nat.reduceAdd]);exact Em
  refine Ev.eql (λHB=>?_) (λHB=>?_)<;>try simp -implicitDefEqProofs only[a0,a3,sS,Nat.reduceAdd]
  ·cases hf:r2.found<;>simp -implicitDefEqProofs only[a0,sS,Nat.reduceAdd]
   ·refine Ev.eql (λpT=>?_) (λpT=>?_)<;>try simp -implicitDefEqProofs only[a0,a2,a3,a4,hf,g5,g6,sS,Nat.reduceAdd]
    ·exact Em
    ·rw[hf] at Fq;exact Fq _
   ·(try simp -implicitDefEqProofs only[a4,g5,g6,sS,Nat.reduceAdd]);exact Em
  ·refine Ev.eql (λpT=>?_) (λpT=>?_)<;>try simp -implicitDefEqProofs only[a0,a2,a3,a4,sS,Nat.reduceAdd]
   ·cases hf:r2.found<;>simp -implicitDefEqProofs only[a2,a3,a4,hf,g5,g6,sS,Nat.reduceAdd]
    ·exact Em
    ·rw[hf] at Fq;exact Fq _
   ·exact Fq _
 have a0:=KL.oR qX;simp -implicitDefEqProofs only[Wy,bx,n1,AL,n2,g4,sS,Nat.reduceAdd];refine Ev.az (dj _) λz=>?_
 try simp -implicitDefEqProofs only[sS,Nat.reduceAdd]
 refine Ev.eql (λHB=>?_) (λHB=>?_)<;>try simp -implicitDefEqProofs only[sS,Nat.reduceAdd]
 ·refine Ev.az (gT _) λz=>?_
  refine Ev.num (cE qX _) λzq Hz mz hj hm=>?_
  obtain⟨a0,a1,a2,a3,a4⟩:=KL.oR hj;simp -implicitDefEqProofs only[a1,sS,Nat.reduceAdd];refine Ev.eql (λpT=>?_) (λpT=>?_)<;>try simp -implicitDefEqProofs only[sS,Nat.reduceAdd]
  ·refine Ev.az (gT _) λz=>?_
   try simp -implicitDefEqProofs only[sS,Nat.reduceAdd]
   refine Ev.num (cE hj _) λzv Hz mz hj hm=>?_
   obtain⟨H6,g6,tU⟩:=KL.Pz hd hj (nf (zq,zv,true));simp -implicitDefEqProofs only[ac9,Sz,g6,sS,Nat.reduceAdd];exact J0 _ _ _ _ _ _ _ _ _ _ _ _ _ tU (by omega) (ng _)
  ·exact J0 _ _ _ _ _ _ _ _ _ _ _ _ _ hj (by omega) rfl
 ·exact J0 _ _ _ _ _ _ _ _ _ _ _ _ _ qX (by omega) rfl
end
section
variable {G:ae} {H H':aa} {o o':aj} {p m c:Nat} {K K':aa→aj→Prop} {t q:Int} {x:Value} {l:PL} {n i:Nat} {cs:List Value} {T:TypeId}
structure KA (B:aa) (b:aj) (p i0 i1:Nat) (t:Int) (op:kC) (c1:List Value) (x:Value) (n:Nat) (H:aa) (o:aj):Prop where
 fr:Fr B b H o [(p:Int)]
 k0:Cl i0 (oQ op) 39 H o
 k1:Cl i1 c1 45 H o
 en:Fp H o t x n
structure Yq (B:aa) (b:aj) (p i0 i1:Nat) (t:Int):Prop where
 e0:i0=B.length
 e1:i1=B.length+1
 lt:t< -100
 ft: ∀i,i<B.length→b i≠t
section
variable {B:aa} {b:aj} {i0 i1:Nat} {op:kC} {c1:List Value}
theorem Yq.ap (h:Yq B b p i0 i1 t):pR t p:=⟨by have:=h.lt;omega,by have:=h.lt;omega,by have:=h.lt;omega⟩
theorem KA.iK (hd:Yq B b p i0 i1 t):cI [(p:Int)] (KA B b p i0 i1 t op c1 x n):=λH o H' o' h f=>⟨h.fr.tr f,h.k0.fr f (by simp),h.k1.fr f (by simp),h.en.fr f (by have:=hd.lt;simp;omega)⟩
theorem KA.oR (h:J (KA B b p i0 i1 t op c1 x n) p m H):aq (.pointer (some ⟨i0,1,none⟩)) H=some (cv op.key)∧cK 3 (pv i0) H=some (iO op):=by
 obtain⟨_,o,_,hg⟩:=h;exact⟨ak i0 1 _ hg.k0.1,Pc hg.k0.1⟩
theorem KA.fin (hd:Yq B b p i0 i1 t)(h:J (KA B b p i0 i1 t op c1 x n) p m H)(hl:c1.length=6)(r:dA): ∃H2,bS 6 (pv i1) (dL r ax) H=some (undef,H2)∧cK 6 (pv i1) H2=some (dL r ax)∧J (KA B b p i0 i1 t op (rc r) x n) p m H2:=by
 obtain⟨_,o,hr,hg⟩:=id h;obtain⟨e0,e1,e2,e3⟩:=id hd;refine⟨_,tD i1 r (s:=ax) rfl H hg.k1.1 hl,jJ _ _ _ (aD hg.k1.1),h.Hl (λo hg=>hg.k1) (KA.iK hd) λo hg=>⟨hg.fr.put λhh=>by omega,hg.k0.put (by omega),hg.k1.self,hg.en.fr ((Fr.refl H o [-9]).put λ_=>by simp[hg.k1.2]) (by simp;omega)⟩⟩
variable {α:Type} {k:Nat→Value→aa→Option α} {Q:α→Prop} {a1 a2 a3:Int} {ty:TypeId}
theorem Ev.ada (hd:Yq B b p i0 i1 t)(h:J (KA B b p i0 i1 t op c1 x n) p m H)(hb:n+1≤4294967296)(hk: ∀x' H',J (KA B b p i0 i1 t op c1 x' (n+1)) p m H'→Ev (λn=>k n x' H') Q):
  Ev (λn=>af (cg T 3 24 x (.slice (some ⟨H.length,0,none⟩) 1 1) (H.new ⟨[cv a1,cv a2,cv a3],ty,3,false⟩)) (k n)) Q:=by
 obtain⟨_,o,hr,hg⟩:=h;obtain⟨x',H2,o2,e,s2,f2⟩:=Fp.app T ty hg.en a1 a2 a3 hb;rw[e];have ha:=hd.ap;have eR:=hd.lt;refine hk x' H2 ⟨KA.iK hd,o2,hr.fr f2 ?_ ?_ ?_,mh (hg.fr.trans f2 (rs:=[t,(p:Int)]) (by simp) (by simp)) hd.ft,hg.k0.fr f2 ?_,hg.k1.fr f2 ?_,s2⟩
 ·simp;omega
 ·simp;omega
 ·simp;omega
 ·simp;omega
 ·simp;omega
end
theorem adb (a b c:Int):aE Tryz.prog 138 [(0,cv a),(1,cv b),(2,cv c)]=some (.agg #[cv a,cv b,cv c]):=by kernel_rfl
theorem ade (a b c:Int)(H:aa):au Tryz.prog 136 1 [(0,.agg #[cv a,cv b,cv c])] H=some (.slice (some ⟨H.length,0,none⟩) 1 1,H.new ⟨[cv a,cv b,cv c],138,3,false⟩):=by kernel_rfl
theorem Yr (i:Nat)(H:aa):ju Tryz.prog 45 (pv i) H=cK 6 (pv i) H:=by kernel_rfl
theorem Ma (h:J K p m H)(hM:m≤2147483648)(op:kC):bA (run G) 160 [pv p,iO op] H (DI K p (m-1)):=by
 refine Ev.up (t:=λk=>Xu (run G k) k (pv p) (iO op) H) ?_ λk=>R7 ..
 obtain⟨hK,b,hr,hk⟩:=id h;obtain⟨i0,e0⟩: ∃i,i=H.length:=⟨_,rfl⟩;obtain⟨i1,e1⟩: ∃i,i=H.length+1:=⟨_,rfl⟩;obtain⟨t,uJ,Ps⟩:=jq b H.length;have hd:Yq H b p i0 i1 t:=⟨e0,e1,uJ,λi hi=>by have:=Ps i hi;omega⟩
 obtain⟨H1,hU⟩: ∃z,z=H.new ⟨oQ op,39,1,false⟩:=⟨_,rfl⟩;have l1:H1.length=H.length+1:=by rw[hU,aW]
 obtain⟨H2,iL⟩: ∃z,z=H1.new ⟨rc bM,45,1,false⟩:=⟨_,rfl⟩;have kc:J (λH' o=>Fr H b H' o [(p:Int)]∧Cl i0 (oQ op) 39 H' o) p m H1:=by
  rw[hU];have SM:J (λH' o=>Fr H b H' o [(p:Int)]) p m H:=⟨cI.base (by simp),b,hr,Fr.refl _ _ _⟩
  refine SM.rL _ _ 1 ((cI.base (by simp)).and λH o H' o' a f=>a.fr f (by simp)) λo hk f=>⟨hk.new _ _,?_⟩
  rw[e0];exact Cl.made
 have jb:J (KA H b p i0 i1 t op (rc bM) ax 0) p m H2:=by
  rw[iL];refine kc.rL _ _ 1 (KA.iK hd) λo hk f=>⟨hk.1.new _ _,hk.2.new,?_,.inl ⟨rfl,rfl⟩⟩
  rw[e1, ←l1];exact Cl.made
 have bx:=vA op H;rw[←e0, ←hU] at bx;have n1:aO H1 45 1 [cv 0,.bool false,cv 0,cv 0,cv 0,ax]=(pv i1,H2):=by rw[iL,e1, ←l1];rfl
 have jr: ∀{c1:List Value} {x:Value} {n:Nat} {m':Nat} {H':aa},J (KA H b p i0 i1 t op c1 x n) p m' H'→J K p m' H':=λhj=>hj.mono hK λo' hg=>hK _ _ _ _ hk hg.fr
 simp -implicitDefEqProofs only[Xu,bx,n1,sS,Nat.reduceAdd];refine Ev.loop (k:=m) (λk vs Hx=>∃(x:Value) (n:Nat) (nn:Int) (x5 aP x8 x9 bW dE cS eD:Value),J (KA H b p i0 i1 t op (rc bM) x n) p k Hx∧k≤m∧n+k≤m∧vs=[pv p,iO op,pv i1,x5,aP,cv nn,pv i0,x8,x9,bW,dE,cS,eD,x])
  (λr=>∃(c1:List Value) (x:Value) (n m1:Nat) (x5 aP x6 x8 x9 bW dE cS eD:Value),J (KA H b p i0 i1 t op c1 x n) p m1 r.2.2∧c1.length=6∧m1≤m-1∧r.2.1=[pv p,iO op,pv i1,x5,aP,x6,pv i0,x8,x9,bW,dE,cS,eD,x]∧(r.1= .exit 0∨(r.1= .ret∧∃rr bb,x5= .bool bb∧c1=rc rr∧rr.list=[])))
  ⟨ax,0,1,_,_,_,_,_,_,_,_,jb,Nat.le_refl _,by omega,rfl⟩ ?_ ?_
 ·rintro k vs Hx ⟨x,n,nn,x5,aP,x8,x9,bW,dE,cS,eD,hj,hkm,hnk,rfl⟩;obtain⟨a0,a1⟩:=KA.oR hj;simp -implicitDefEqProofs only[La,yZ,sS,Nat.reduceAdd];refine Ev.off hj (λhq=>?_) (λhq=>?_)<;>try simp -implicitDefEqProofs only[a0,sS,Nat.reduceAdd]
  ·exact Ev.ret (.inr ⟨by simp,_,_,_,_,_,_,_,_,_,_,_,_,_,hj,rfl,by omega,rfl,.inl rfl⟩)
  refine Ev.num (ea hj _ _) λzs Hz mz hj hm=>?_
  refine Ev.num (fl hj _) λzw Hz mz hj hm=>?_
  refine Ev.az (dj _) λzk=>?_
  try simp -implicitDefEqProofs only[sS,Nat.reduceAdd]
  refine Ev.eql (λhq=>?_) (λhq=>?_)<;>try simp -implicitDefEqProofs only[sS,Nat.reduceAdd]
  ·refine Ev.az (gT _) λza=>?_
   refine Ev.bool (qA hj (by omega) _) λz Hz mz hj hm=>?_
   cases z<;>simp -implicitDefEqProofs only[sS,Nat.reduceAdd]
   ·refine Ev.call (IW hj) ?_;rintro v H5 ⟨rfl,hj⟩;obtain⟨H6,g5,g6,q9⟩:=KA.fin hd hj rfl (fN 8);simp -implicitDefEqProofs only[g5,sS,Nat.reduceAdd];exact Ev.ret (.inr ⟨by simp,_,_,_,_,_,_,_,_,_,_,_,_,_,q9,rfl,by omega,rfl,.inr ⟨rfl,_,_,rfl,rfl,rfl⟩⟩)
   ·obtain⟨H6,g5,g6,q9⟩:=KA.fin hd hj rfl bM;simp -implicitDefEqProofs only[AL,g5,sS,Nat.reduceAdd];exact Ev.ret (.inr ⟨by simp,_,_,_,_,_,_,_,_,_,_,_,_,_,q9,rfl,by omega,rfl,.inr ⟨rfl,_,_,rfl,rfl,rfl⟩⟩)
  refine Ev.eql (λhq=>?_) (λhq=>?_)<;>try simp -implicitDefEqProofs only[adb,ade,sS,Nat.reduceAdd]
  ·refine Ev.ada hd hj (by omega) λx' Hz hj=>?_
   refine Ev.az (gT _) λza=>?_
   try simp -implicitDefEqProofs only[sS,Nat.reduceAdd]
   exact Ev.ret (.inl ⟨rfl,_,by omega,_,_,_,_,_,_,_,_,_,_,_,hj,by omega,by omega,rfl⟩)
  ·obtain⟨a0,a1⟩:=KA.oR hj;simp -implicitDefEqProofs only[a1,sS,Nat.reduceAdd];refine Ev.call (aa6 hj (by omega) (λH o hg=>hg.en) (by have:=hd.lt;omega) (by omega) op _ _ _) ?_
   rintro v H5 ⟨rr,bb,rfl,hl,m',hj,Ml⟩;obtain⟨H6,g5,g6,q9⟩:=KA.fin hd hj rfl rr;simp -implicitDefEqProofs only[g5,sS,Nat.reduceAdd];exact Ev.ret (.inr ⟨by simp,_,_,_,_,_,_,_,_,_,_,_,_,_,q9,rfl,by omega,rfl,.inr ⟨rfl,_,_,rfl,rfl,hl⟩⟩)
 ·rintro e vs Hx ⟨c1,x,n,m1,x5,aP,x6,x8,x9,bW,dE,cS,eD,hj,hc,hm,rfl,he⟩;rcases he with he|⟨he,rr,bb,rfl,rfl,hl⟩
  ·simp only at he;subst he;obtain⟨H6,g5,g6,q9⟩:=KA.fin hd hj hc bM;simp -implicitDefEqProofs only[Lb,y6,AL,g5,g6,sS,Nat.reduceAdd];exact Ev.ret ⟨_,_,rfl,rfl,_,jr q9,hm⟩
  ·simp only at he;subst he;obtain⟨_,o1,_,hg⟩:=id hj;have hl6:=jJ i1 rr (s:=ax) Hx hg.k1.1;show Ev (λ_=>af (pS (ju Tryz.prog 45 (pv i1) Hx) Hx) λv _=>some (Value.tuple #[v,.bool bb],Hx)) _
   simp -implicitDefEqProofs only[Yr,hl6,sS,Nat.reduceAdd];exact Ev.ret ⟨_,_,rfl,hl,_,jr hj,hm⟩
abbrev adf (K:aa→aj→Prop)(p c:Nat):Value→aa→Prop:=λv H'=>∃r,v=dL r ax∧r.list=[]∧∃m',J K p m' H'∧m'≤c
theorem PA (h:J K p m H)(hM:m≤2147483648)(op:kC):bA (run G) 144 [pv p,iO op] H (adf K p m):=by
 refine Ev.up (t:=λk=>Xd (run G k) k (pv p) (iO op) H) ?_ λk=>RW ..
 obtain⟨hK,b,hr,hk⟩:=id h;obtain⟨i0,e0⟩: ∃i,i=H.length:=⟨_,rfl⟩;obtain⟨i1,e1⟩: ∃i,i=H.length+1:=⟨_,rfl⟩;obtain⟨t,uJ,Ps⟩:=jq b H.length;have hd:Yq H b p i0 i1 t:=⟨e0,e1,uJ,λi hi=>by have:=Ps i hi;omega⟩
 obtain⟨H1,hU⟩: ∃z,z=H.new ⟨oQ op,39,1,false⟩:=⟨_,rfl⟩;have l1:H1.length=H.length+1:=by rw[hU,aW]
 obtain⟨H2,iL⟩: ∃z,z=H1.new ⟨rc bM,45,1,false⟩:=⟨_,rfl⟩;have kc:J (λH' o=>Fr H b H' o [(p:Int)]∧Cl i0 (oQ op) 39 H' o) p m H1:=by
  rw[hU];have SM:J (λH' o=>Fr H b H' o [(p:Int)]) p m H:=⟨cI.base (by simp),b,hr,Fr.refl _ _ _⟩
  refine SM.rL _ _ 1 ((cI.base (by simp)).and λH o H' o' a f=>a.fr f (by simp)) λo hk f=>⟨hk.new _ _,?_⟩
  rw[e0];exact Cl.made
 have jb:J (KA H b p i0 i1 t op (rc bM) ax 0) p m H2:=by
  rw[iL];refine kc.rL _ _ 1 (KA.iK hd) λo hk f=>⟨hk.1.new _ _,hk.2.new,?_,.inl ⟨rfl,rfl⟩⟩
  rw[e1, ←l1];exact Cl.made
 have bx:=vA op H;rw[←e0, ←hU] at bx;have n1:aO H1 45 1 [cv 0,.bool false,cv 0,cv 0,cv 0,ax]=(pv i1,H2):=by rw[iL,e1, ←l1];rfl
 have jr: ∀{c1:List Value} {x:Value} {n:Nat} {m':Nat} {H':aa},J (KA H b p i0 i1 t op c1 x n) p m' H'→J K p m' H':=λhj=>hj.mono hK λo' hg=>hK _ _ _ _ hk hg.fr
 simp -implicitDefEqProofs only[Xd,bx,n1,sS,Nat.reduceAdd];refine Ev.loop (k:=m) (λk vs Hx=>∃(aN x6 bn x5:Value),J (KA H b p i0 i1 t op (rc bM) ax 0) p k Hx∧k≤m∧vs=[pv p,iO op,pv i1,aN,pv i0,x6,bn,x5])
  (λr=>∃(c1:List Value) (m1:Nat) (aN x6 bn x5:Value),J (KA H b p i0 i1 t op c1 ax 0) p m1 r.2.2∧c1.length=6∧m1≤m∧r.2.1=[pv p,iO op,pv i1,aN,pv i0,x6,bn,x5]∧(r.1= .exit 0∨(r.1= .ret∧∃rr,c1=rc rr∧rr.list=[])))
  ⟨_,_,_,_,jb,Nat.le_refl _,rfl⟩ ?_ ?_
 ·rintro k vs Hx ⟨aN,x6,bn,x5,hj,hkm,rfl⟩;obtain⟨a0,a1⟩:=KA.oR hj;simp -implicitDefEqProofs only[KS,yP,sS,Nat.reduceAdd];refine Ev.off hj (λhq=>?_) (λhq=>?_)<;>try simp -implicitDefEqProofs only[a1,sS,Nat.reduceAdd]
  ·exact Ev.ret (.inr ⟨by simp,_,_,_,_,_,_,hj,rfl,by omega,rfl,.inl rfl⟩)
  refine Ev.call (Ma hj (by omega) op) ?_
  rintro v H5 ⟨rr,bb,rfl,hl,m',hj,Ml⟩;obtain⟨H6,Fs⟩: ∃z,z=H5.new ⟨rc bM,45,1,false⟩:=⟨_,rfl⟩;have n2:aO H5 45 1 [cv 0,.bool false,cv 0,cv 0,cv 0,ax]=(pv H5.length,H6):=by rw[Fs];rfl
  have tU:J (λH' o=>KA H b p i0 i1 t op (rc bM) ax 0 H' o∧Cl H5.length (rc bM) 45 H' o∧i1<H5.length) p m' H6:=by
   rw[Fs];refine hj.rL _ _ 1 ((KA.iK hd).and λH o H' o' a f=>⟨a.1.fr f (by simp),a.2⟩) λo hk f=>⟨KA.iK hd _ _ _ _ hk (f.wk (by simp)),Cl.made,an hk.k1.1⟩
  obtain⟨_,o6,hr6,hg6,hc6,hi6⟩:=id tU;have kW:=tD H5.length rr (s:=ax) rfl H6 hc6.1 rfl;obtain⟨H7,Qh⟩: ∃z,z=H6.put H5.length ⟨rc rr,45,1,false⟩:=⟨_,rfl⟩;rw[←Qh] at kW;have T6:J (λH' o=>KA H b p i0 i1 t op (rc bM) ax 0 H' o∧Cl H5.length (rc rr) 45 H' o∧i1<H5.length) p m' H7:=by
   rw[Qh];refine tU.Hl (λo hg=>hg.2.1) ((KA.iK hd).and λH o H' o' a f=>⟨a.1.fr f (by simp),a.2⟩) λo hg=>⟨⟨hg.1.fr.put λhh=>by omega,hg.1.k0.put (by omega),hg.1.k1.put (by omega),.inl ⟨rfl,rfl⟩⟩,hg.2.1.self,hg.2.2⟩
  have hj8:J (KA H b p i0 i1 t op (rc bM) ax 0) p m' H7:=T6.mono (KA.iK hd) λo a=>a.1
  obtain⟨_,o7,hr7,hg7,hc7,hi7⟩:=id T6;have iX:=jJ H5.length rr (s:=ax) H7 hc7.1;obtain⟨H8,g5,g6,q9⟩:=KA.fin hd hj8 rfl rr;simp -implicitDefEqProofs only[n2,kW,sS,Nat.reduceAdd];cases bb<;>simp -implicitDefEqProofs only[iX,g5,sS,Nat.reduceAdd]
  ·exact Ev.ret (.inl ⟨rfl,_,by omega,_,_,_,_,hj8,by omega,rfl⟩)
  ·exact Ev.ret (.inr ⟨by simp,_,_,_,_,_,_,q9,rfl,by omega,rfl,.inr ⟨rfl,_,rfl,hl⟩⟩)
 ·rintro e vs Hx ⟨c1,m1,aN,x6,bn,x5,hj,hc,hm,rfl,he⟩;rcases he with he|⟨he,rr,rfl,hl⟩
  ·simp only at he;subst he;obtain⟨H6,g5,g6,q9⟩:=KA.fin hd hj hc bM;simp -implicitDefEqProofs only[KT,yQ,AL,g5,g6,sS,Nat.reduceAdd];exact Ev.ret ⟨_,rfl,rfl,_,jr q9,hm⟩
  ·simp only at he;subst he;obtain⟨_,o1,_,hg⟩:=id hj;have hl6:=jJ i1 rr (s:=ax) Hx hg.k1.1;show Ev (λ_=>af (pS (ju Tryz.prog 45 (pv i1) Hx) Hx) λv _=>some (v,Hx)) _
   simp -implicitDefEqProofs only[Yr,hl6,sS,Nat.reduceAdd];exact Ev.ret ⟨_,rfl,hl,_,jr hj,hm⟩
end
end Go.Proofs.YtjgmnoaalbbonaaGreat.Fun
end
