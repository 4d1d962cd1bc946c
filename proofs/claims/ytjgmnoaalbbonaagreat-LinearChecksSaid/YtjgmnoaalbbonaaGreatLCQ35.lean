/- Texts of the proof of linearChecks_holds, put together by a small program of ours (names shortened, spaces taken out). No condition beyond the given statement. -/
import Derived.Test.YtjgmnoaalbbonaaGreatLCQ19
import Derived.Test.YtjgmnoaalbbonaaGreatLCQ22
import Derived.Test.YtjgmnoaalbbonaaGreatLCQ34
import Derived.Test.YtjgmnoaalbbonaaGreatLCQ18
import Derived.Test.YtjgmnoaalbbonaaGreatLCQ20
import Derived.Test.YtjgmnoaalbbonaaGreatLCQ21
set_option linter.unusedVariables false
set_option linter.unusedSimpArgs false
set_option linter.unnecessarySimpa false
noncomputable section
section
namespace Go.Proofs.YtjgmnoaalbbonaaGreat.Fun
open Go Go.RowKit Go.Proofs.YtjgmnoaalbbonaaGreatA.Am
set_option maxRecDepth 10000
section
variable {G:ag} {H H':ae} {o o':an} {p m c:Nat} {K K':ae→an→Prop} {t q:Int} {x:Value} {l:PL} {n i:Nat} {cs:List Value} {T:TypeId}
def Cl (i:Nat)(cs:List Value)(T:TypeId)(H:ae)(o:an):Prop:=H.get i=some ⟨cs,T,1,false⟩∧o i= -9
theorem Cl.fr {ps:List Int}(h:Cl i cs T H o)(f:Fr H o H' o' ps)(hp:(-9:Int) ∉ ps):Cl i cs T H' o':=
 ⟨by rw[f.same i (aq h.1) (by rw[h.2];exact hp)];exact h.1,by rw[f.own i (aq h.1)];exact h.2⟩
theorem Cl.new {c:eY}(h:Cl i cs T H o):Cl i cs T (H.new c) (o.up H.length (-9)):=h.fr ((Fr.refl H o []).new _ _) (by simp)
theorem Cl.put {j:Nat}{c:eY}(h:Cl i cs T H o)(eC:i≠j):Cl i cs T (H.put j c) o:=⟨by rw[bt eC];exact h.1,h.2⟩
theorem Cl.self (h:Cl i cs T H o){ds:List Value}:Cl i ds T (H.put i ⟨ds,T,1,false⟩) o:=⟨aH h.1,h.2⟩
theorem Cl.made:Cl H.length cs T (H.new ⟨cs,T,1,false⟩) (o.up H.length (-9)):=⟨az,aQ⟩
theorem J.tM (h:J K p m H)(cs:List Value)(T:TypeId)(es:Nat)(hK':cW [(p:Int)] K')(k: ∀o,K H o→Fr H o (H.new ⟨cs,T,es,false⟩) (o.up H.length (-9)) []→K' (H.new ⟨cs,T,es,false⟩) (o.up H.length (-9))):J K' p m (H.new ⟨cs,T,es,false⟩):=by
 obtain⟨hK,o,hr,hk⟩:=h;have f:Fr H o (H.new ⟨cs,T,es,false⟩) (o.up H.length (-9)) []:=(Fr.refl H o []).new _ _;exact⟨hK',_,hr.fr f (by simp) (by simp) (by simp),k o hk f⟩
theorem J.Lh (h:J K p m H){c:eY}(hc: ∀o,K H o→Cl i cs T H o)(hK':cW [(p:Int)] K')(k: ∀o,K H o→K' (H.put i c) o):J K' p m (H.put i c):=by
 obtain⟨hK,o,hr,hk⟩:=h;have f:Fr H o (H.put i c) o [-9]:=(Fr.refl H o [-9]).put λ_=>by simp[(hc o hk).2]
 exact⟨hK',_,hr.fr f (by simp) (by simp) (by simp),k o hk⟩
theorem J.new (h:J K p m H)(c:eY):J K p m (H.new c):=h.GN λo=>⟨o.up H.length (-9),(Fr.refl H o []).new _ _⟩
theorem oR (l:List Int)(T:TypeId):jb (H.new ⟨l.map cv,T,1,false⟩) (.slice (some ⟨H.length,0,none⟩) l.length l.length) l:=(rJ.new H o0 (-9) T l).ints.1
theorem M5 {l:List Int}(h:jb H x l)(c:eY):jb (H.new c) x l:=h.keep λi b e eC=>by
 rcases h with⟨e1,e2⟩|⟨j,off,cc,e1,hb⟩
 ·exact absurd e2 eC
 ·obtain⟨bb,g1,_⟩:=hb eC;rw[e1] at e;cases e;exact cr (aq g1)
abbrev rc (r:dF):List Value:=[cv r.pH,.bool r.found,cv r.key,cv r.value,cv r.n,aB]
abbrev qj (op:jZ):List Value:=[cv op.kind,cv op.key,cv op.value]
theorem M6 (h:J K p m H):bN (run G) 168 [] H λv H'=>v=c8 (eJ 8) aB∧J K p m H':=by
 refine Ev.up (t:=λk=>aco (run G k) k H) ?_ λk=>WU ..
 simp -implicitDefEqProofs only[aco,aO,sS,Nat.reduceAdd];have g:(H.new ⟨[cv 0,.bool false,cv 0,cv 0,cv 0,aB],45,1,false⟩).get H.length=some ⟨[cv 0,.bool false,cv 0,cv 0,cv 0,aB],45,1,false⟩:=az;have ky:=tK H.length (eJ 8) (s:=aB) rfl _ g rfl;have fN:=jR H.length (eJ 8) (s:=aB) (t:=45) _ (aH g);simp -implicitDefEqProofs only[nV,ky,fN,sS,Nat.reduceAdd];have hj:=(h.new ⟨[cv 0,.bool false,cv 0,cv 0,cv 0,aB],45,1,false⟩);refine Ev.ret ⟨rfl,?_⟩;obtain⟨hK,o,hr,hk⟩:=h;have f:Fr H o ((H.new ⟨[cv 0,.bool false,cv 0,cv 0,cv 0,aB],45,1,false⟩).put H.length ⟨[cv (eJ 8).pH,.bool (eJ 8).found,cv (eJ 8).key,cv (eJ 8).value,cv (eJ 8).n,aB],45,1,false⟩) (o.up H.length (-9)) []:=((Fr.refl H o []).new _ _).put λhh=>absurd hh (by omega)
 exact⟨hK,_,hr.fr f (by simp) (by simp) (by simp),hK _ _ _ _ hk (f.wk (by simp))⟩
theorem afi (a b:Int)(H:ae):QS (cv a) (cv b) H=some (cv (if b>a then b else a),H):=rfl
theorem Xz (h:J K p m H)(hM:m≤2147483648)(op:jZ)(w q:Int)(leaf there:Bool):bN (run G) 170 [pv p,iG op,cv w,cv q,.bool leaf,.bool there] H (ID K p m):=by
 refine Ev.up (t:=λk=>abo (run G k) k (pv p) (iG op) (cv w) (cv q) (.bool leaf) (.bool there) H) ?_ λk=>Wg ..
 have hK:=h.1;obtain⟨i0,ei⟩: ∃i,i=H.length:=⟨_,rfl⟩;obtain⟨H1,e1⟩: ∃z,z=H.new ⟨qj op,39,1,false⟩:=⟨_,rfl⟩;have kY:J (λH o=>K H o∧Cl i0 (qj op) 39 H o) p m H1:=by
  rw[e1];refine h.tM _ _ 1 (hK.and λH o H' o' a f=>a.fr f (by simp)) λo hk f=>⟨hK _ _ _ _ hk (f.wk (by simp)),?_⟩
  rw[ei];exact Cl.made
 have j8: ∀{m':Nat} {H':ae},J (λH o=>K H o∧Cl i0 (qj op) 39 H o) p m' H'→J K p m' H':=λhj=>hj.mono hK λo a=>a.1
 have L0: ∀{m':Nat} {H':ae},J (λH o=>K H o∧Cl i0 (qj op) 39 H o) p m' H'→au (.pointer (some ⟨i0,0,none⟩)) H'=some (cv op.kind)∧au (.pointer (some ⟨i0,1,none⟩)) H'=some (cv op.key)∧au (.pointer (some ⟨i0,2,none⟩)) H'=some (cv op.value):=λhj=>by
  obtain⟨_,o,_,_,g,_⟩:=hj;exact⟨ak i0 0 _ g,ak i0 1 _ g,ak i0 2 _ g⟩
 obtain⟨a0,a1,a2⟩:=L0 kY;have bx:=tJ op H;rw[←ei, ←e1] at bx;simp -implicitDefEqProofs only[abo,bx,a0,a1,a2,sS,Nat.reduceAdd];refine Ev.eql (λhq=>?_) (λhq=>?_)<;>try simp -implicitDefEqProofs only[a0,a1,a2,sS,Nat.reduceAdd]
 ·refine Ev.wd (cu kY) λw Hz hj=>?_
  refine Ev.dB (dj hj) λz zb Hz mz hj hm=>?_
  have GV:=j8 hj
  try simp -implicitDefEqProofs only[sS,Nat.reduceAdd]
  repeat' (first| (with_reducible exact Ev.ret ⟨_,_,rfl,_,by assumption,by omega⟩)| ((with_reducible first|refine Ev.lss (λhq=>?_) (λhq=>?_)|refine Ev.gtr (λhq=>?_) (λhq=>?_)|refine Ev.leq (λhq=>?_) (λhq=>?_)|refine Ev.geq (λhq=>?_) (λhq=>?_)|refine Ev.eql (λhq=>?_) (λhq=>?_)|refine Ev.neq (λhq=>?_) (λhq=>?_)|refine Ev.off ‹_› (λhq=>?_) (λhq=>?_)|refine Ev.aG (dx _) λz=>?_ |refine Ev.aG (iA _) λz=>?_ |refine Ev.aG (cS _ _) λz=>?_ |refine Ev.aG (bX _ _ _) λz=>?_ |refine Ev.aG (iJ _ _) λz=>?_ |refine Ev.aG (df _) λz=>?_ |refine Ev.aG (dk _ _ _ _) λz=>?_ |refine Ev.num (cQ ‹_› _) λz Hz mz hj hm=>?_ |refine Ev.num (fw ‹_› _ _) λz Hz mz hj hm=>?_ |refine Ev.num (fj ‹_› _) λz Hz mz hj hm=>?_ |refine Ev.num (fZ ‹_› _) λz Hz mz hj hm=>?_ |refine Ev.num (eV ‹_› _ _) λz Hz mz hj hm=>?_ |refine Ev.num (gP ‹_› _ _ _ _) λz Hz mz hj hm=>?_ |refine Ev.bool (fx ‹_› _ _ _) λz Hz mz hj hm=>?_ |refine Ev.un (cO ‹_› _ _) λz Hz mz hj hm=>?_ |refine Ev.un (fY ‹_› _) λz Hz mz hj hm=>?_ |refine Ev.dB (dj ‹_›) λz zb Hz mz hj hm=>?_ |refine Ev.dB (gO ‹_› _) λz zb Hz mz hj hm=>?_ |refine Ev.kc (dp ‹_› _ _) λz zb Hz mz hj hm=>?_ |refine Ev.num (iK _ ‹_› _) λz Hz mz hj hm=>?_ |refine Ev.dB (vH ‹_› (by omega) _ _) λz zb Hz mz hj hm=>?_ |refine Ev.bool (rC ‹_› (by omega) _ _ _ _ _) λz Hz mz hj hm=>?_ |refine Ev.bool (pM ‹_› (by omega) _ _ _ _) λz Hz mz hj hm=>?_ |refine Ev.bool (sd ‹_› (by omega) _) λz Hz mz hj hm=>?_ |refine Ev.bool (yW ‹_› (by omega) _ _ _) λz Hz mz hj hm=>?_ |refine Ev.wd (cP ‹_› _ _ _ _) λw Hz hj=>?_ |refine Ev.wd (cu ‹_›) λw Hz hj=>?_ |refine Ev.wd (cL ‹_› _ _) λw Hz hj=>?_ |refine Ev.wd (bM ‹_› _ _ _) λw Hz hj=>?_ |refine Ev.oP ‹_› λHz hj=>?_ |refine Ev.oQ ‹_› λHz hj=>?_ |refine Ev.nX ‹_› λz=>?_ |refine Ev.br (λhq=>?_) (λhq=>?_))<;>try simp -implicitDefEqProofs only[sS,Nat.reduceAdd]))
 refine Ev.wd (cL kY _ _) λw1 Hz hj=>?_
 refine Ev.dB (dj hj) λz zb Hz mz hj hm=>?_
 try simp -implicitDefEqProofs only[sS,Nat.reduceAdd]
 refine Ev.aG (iJ _ _) λz2=>?_
 have GV:=j8 hj;cases zb<;>simp -implicitDefEqProofs only[sS,Nat.reduceAdd]
 ·exact Ev.ret ⟨_,_,rfl,_,GV,by omega⟩
 cases leaf<;>simp -implicitDefEqProofs only[sS,Nat.reduceAdd]
 ·exact Ev.ret ⟨_,_,rfl,_,GV,by omega⟩
 cases there<;>simp -implicitDefEqProofs only[sS,Nat.reduceAdd]
 ·have J0: ∀{m1:Nat} {H1:ae} {y:Value} (l:List Int) (aP aR bJ aW aZ bn bd fa bz ia:Value),J (λH o=>K H o∧Cl i0 (qj op) 39 H o) p m1 H1→jb H1 y l→l.length≤10→m1≤m→Ev (λk=>yI (run G k) k [pv p,iG op,cv w,cv q,.bool true,.bool false,aP,aR,pv i0,bJ,aW,aZ,bn,bd,fa,bz,ia,y] H1) λr=>ID K p m r.1 r.2:=by
   intro m1 H1 y l aP aR bJ aW aZ bn bd fa bz ia hj hy hl hm;obtain⟨a0,a1,a2⟩:=L0 hj;simp -implicitDefEqProofs only[OQ,A9,a1,afi,Gv,sS,Nat.reduceAdd];refine Ev.wd (pL (hj.new _) _ (oR [_] _) (M5 hy _) (by simp;omega)) λw1 Hz hj=>?_
   refine Ev.dB (dj hj) λz zb Hz mz hj hm=>?_
   have GV:=j8 hj
   try simp -implicitDefEqProofs only[sS,Nat.reduceAdd]
   refine Ev.aG (iJ _ _) λz2=>?_
   try simp -implicitDefEqProofs only[sS,Nat.reduceAdd]
   exact Ev.ret ⟨_,_,rfl,_,GV,by omega⟩
  obtain⟨b0,b1,b2⟩:=L0 (hj.new ⟨[cv w,cv z2],2,1,false⟩);simp -implicitDefEqProofs only[ac2,b0,b1,sS,Nat.reduceAdd];refine Ev.lss (λhq=>?_) (λhq=>?_)<;>try simp -implicitDefEqProofs only[ac2,sS,Nat.reduceAdd]
  ·exact J0 [z2,w] _ _ _ _ _ _ _ _ _ _ ((hj.new _).new _) (oR [z2,w] _) (by simp) (by omega)
  ·exact J0 [w,z2] _ _ _ _ _ _ _ _ _ _ (hj.new _) (oR [w,z2] _) (by simp) (by omega)
 ·exact Ev.ret ⟨_,_,rfl,_,GV,by omega⟩
end
section
variable {G:ag} {H H':ae} {o o':an} {p m c:Nat} {K K':ae→an→Prop} {t q:Int} {x:Value} {l:PL} {n i:Nat} {cs:List Value} {T:TypeId}
structure KL (B:ae) (b:an) (p i0 i1 i2:Nat) (op:jZ) (c1:List Value) (r2:dF) (H:ae) (o:an):Prop where
 fr:Fr B b H o [(p:Int)]
 k0:Cl i0 (qj op) 39 H o
 k1:Cl i1 c1 45 H o
 k2:Cl i2 (rc r2) 45 H o
structure KLd (B:ae) (i0 i1 i2:Nat):Prop where
 a:i0=B.length
 b:i1=B.length+1
 c:i2=B.length+2
section
variable {B:ae} {b:an} {i0 i1 i2:Nat} {op:jZ} {c1:List Value} {r2:dF}
theorem KL.js:cW [(p:Int)] (KL B b p i0 i1 i2 op c1 r2):=λH o H' o' h f=>⟨h.fr.tr f,h.k0.fr f (by simp),h.k1.fr f (by simp),h.k2.fr f (by simp)⟩
theorem KL.ql (h:J (KL B b p i0 i1 i2 op c1 r2) p m H):au (.pointer (some ⟨i0,0,none⟩)) H=some (cv op.kind)∧au (.pointer (some ⟨i0,1,none⟩)) H=some (cv op.key)∧bV 3 (pv i0) H=some (iG op)∧au (.pointer (some ⟨i2,1,none⟩)) H=some (.bool r2.found)∧bV 6 (pv i2) H=some (c8 r2 aB):=by
 obtain⟨_,o,_,hg⟩:=h;exact⟨ak i0 0 _ hg.k0.1,ak i0 1 _ hg.k0.1,Qj hg.k0.1,ak i2 1 _ hg.k2.1,jR _ _ _ hg.k2.1⟩
theorem KL.fin (hd:KLd B i0 i1 i2)(h:J (KL B b p i0 i1 i2 op c1 r2) p m H)(hl:c1.length=6)(r:dF): ∃H2,bS 6 (pv i1) (c8 r aB) H=some (undef,H2)∧bV 6 (pv i1) H2=some (c8 r aB)∧J (KL B b p i0 i1 i2 op (rc r) r2) p m H2:=by
 obtain⟨_,o,hr,hg⟩:=id h;obtain⟨e0,e1,e2⟩:=hd;refine⟨_,tK i1 r (s:=aB) rfl H hg.k1.1 hl,jR _ _ _ (aH hg.k1.1),h.Lh (λo hg=>hg.k1) KL.js λo hg=>⟨hg.fr.put λhh=>by omega,hg.k0.put (by omega),hg.k1.self,hg.k2.put (by omega)⟩⟩
theorem KL.TN (hd:KLd B i0 i1 i2)(h:J (KL B b p i0 i1 i2 op c1 r2) p m H)(r:dF): ∃H2,bS 6 (pv i2) (c8 r aB) H=some (undef,H2)∧J (KL B b p i0 i1 i2 op c1 r) p m H2:=by
 obtain⟨_,o,hr,hg⟩:=id h;obtain⟨e0,e1,e2⟩:=hd;refine⟨_,tK i2 r (s:=aB) rfl H hg.k2.1 rfl,h.Lh (λo hg=>hg.k2) KL.js λo hg=>⟨hg.fr.put λhh=>by omega,hg.k0.put (by omega),hg.k1.put (by omega),hg.k2.self⟩⟩
end
abbrev Gy (K:ae→an→Prop)(p c:Nat):Value→ae→Prop:=λv H'=>∃r b,v= .tuple #[c8 r aB,.bool b]∧r.list=[]∧∃m',J K p m' H'∧m'≤c
theorem ahv (a b:Int):aI Tryz.prog 42 [(0,cv a),(1,cv b)]=some (.agg #[cv a,cv b]):=Cg a b
theorem afj (h:J K p m H)(hM:m≤2147483648)(hx: ∀H o,K H o→IG H o q x n)(hq:q≠(p:Int))(hn:n≤2147483648)(op:jZ)(nn s w:Int):
  bN (run G) 169 [pv p,iG op,cv nn,cv s,cv w,x] H (Gy K p m):=by
 refine Ev.up (t:=λk=>aa1 (run G k) k (pv p) (iG op) (cv nn) (cv s) (cv w) x H) ?_ λk=>V5 ..
 obtain⟨hK,b,hr,hk⟩:=id h;have hxB:=hx _ _ hk;have hxs: ∀{H':ae} {o':an},Fr H b H' o' [(p:Int)]→IG H' o' q x n:=λf=>hxB.fr f (by simpa using hq)
 obtain⟨i0,e0⟩: ∃i,i=H.length:=⟨_,rfl⟩;obtain⟨i1,e1⟩: ∃i,i=H.length+1:=⟨_,rfl⟩;obtain⟨i2,e2⟩: ∃i,i=H.length+2:=⟨_,rfl⟩;have hd:KLd H i0 i1 i2:=⟨e0,e1,e2⟩;obtain⟨H1,iI⟩: ∃z,z=H.new ⟨qj op,39,1,false⟩:=⟨_,rfl⟩;have l1:H1.length=H.length+1:=by rw[iI,bh]
 obtain⟨H2,jt⟩: ∃z,z=H1.new ⟨rc bZ,45,1,false⟩:=⟨_,rfl⟩;have l2:H2.length=H.length+2:=by rw[jt,bh,l1]
 obtain⟨H3,pX⟩: ∃z,z=H2.new ⟨rc bZ,45,1,false⟩:=⟨_,rfl⟩;have kY:J (λH' o=>Fr H b H' o [(p:Int)]∧Cl i0 (qj op) 39 H' o) p m H1:=by
  rw[iI];have XA:J (λH' o=>Fr H b H' o [(p:Int)]) p m H:=⟨cW.base (by simp),b,hr,Fr.refl _ _ _⟩
  refine XA.tM _ _ 1 ((cW.base (by simp)).and λH o H' o' a f=>a.fr f (by simp)) λo hk f=>⟨hk.new _ _,?_⟩
  rw[e0];exact Cl.made
 have jJ:J (λH' o=>(Fr H b H' o [(p:Int)]∧Cl i0 (qj op) 39 H' o)∧Cl i1 (rc bZ) 45 H' o) p m H2:=by
  rw[jt];refine kY.tM _ _ 1 (kY.1.and λH o H' o' a f=>a.fr f (by simp)) λo hk f=>⟨⟨hk.1.new _ _,hk.2.new⟩,?_⟩
  rw[e1, ←l1];exact Cl.made
 have lu:J (KL H b p i0 i1 i2 op (rc bZ) bZ) p m H3:=by
  rw[pX];refine jJ.tM _ _ 1 KL.js λo hk f=>⟨hk.1.1.new _ _,hk.1.2.new,hk.2.new,?_⟩
  rw[e2, ←l2];exact Cl.made
 obtain⟨H4,g4,sN⟩:=KL.TN hd lu bZ;have bx:=tJ op H;rw[←e0, ←iI] at bx;have n1:aO H1 45 1 [cv 0,.bool false,cv 0,cv 0,cv 0,aB]=(pv i1,H2):=by rw[jt,e1, ←l1];rfl
 have n2:aO H2 45 1 [cv 0,.bool false,cv 0,cv 0,cv 0,aB]=(pv i2,H3):=by rw[pX,e2, ←l2];rfl
 have j8: ∀{c1:List Value} {r2:dF} {m':Nat} {H':ae},J (KL H b p i0 i1 i2 op c1 r2) p m' H'→J K p m' H':=λhj=>hj.mono hK λo' hg=>hK _ _ _ _ hk hg.fr
 have J2: ∀{m1:Nat} {H1:ae} {r2:dF} (leaf:Bool) (q z19:Int) (aR bY cz ic bz lJ bd xk lS jc:Value),J (KL H b p i0 i1 i2 op (rc bZ) r2) p m1 H1→m1≤m→r2.list=[]→Ev (λk=>rP (run G k) k [pv p,iG op,cv nn,cv s,cv w,x,pv i1,aR,.bool leaf,bY,cv q,pv i0,cz,pv i2,ic,bz,lJ,bd,xk,cv z19,lS,jc] H1) λr=>Gy K p m r.1 r.2:=by
  intro m1 H1 r2 leaf q z19 aR bY cz ic bz lJ bd xk lS jc hj hm hl;obtain⟨a0,a1,a2,a3,a4⟩:=KL.ql hj;obtain⟨H5,g5,g6,sT⟩:=KL.fin hd hj rfl r2;simp -implicitDefEqProofs only[OL,AS,a4,sS,Nat.reduceAdd];refine Ev.eql (λhq=>?_) (λhq=>?_)<;>try simp -implicitDefEqProofs only[g5,g6,sS,Nat.reduceAdd]
  ·exact Ev.ret ⟨_,_,rfl,hl,_,j8 sT,hm⟩
  ·exact Ev.ret ⟨_,_,rfl,hl,_,j8 sT,hm⟩
 have UW: ∀{m1:Nat} {H1:ae} {r2:dF},J (KL H b p i0 i1 i2 op (rc bZ) r2) p m1 H1→m1≤m→Ev (λk=>af (run G k 168 [] H1) λy Hy=>af (bS 6 (pv i1) y Hy) λ_ Hy=>af (pS (bV 6 (pv i1) Hy) Hy) λr0 _=>some (Value.tuple #[r0,.bool true],Hy)) λr=>Gy K p m r.1 r.2:=by
  intro m1 H1 r2 hj hm;refine Ev.call (M6 hj) ?_;rintro v H5 ⟨rfl,hj⟩;obtain⟨H6,g5,g6,sT⟩:=KL.fin hd hj rfl (eJ 8);simp -implicitDefEqProofs only[g5,g6,sS,Nat.reduceAdd];exact Ev.ret ⟨_,_,rfl,rfl,_,j8 sT,hm⟩
 have J1: ∀{m1:Nat} {H1:ae} {r2:dF} (leaf:Bool) (q z19:Int) (aR bY cz ic bz lJ bd xk lS jc:Value),J (KL H b p i0 i1 i2 op (rc bZ) r2) p m1 H1→m1≤m→r2.list=[]→Ev (λk=>pD (run G k) k [pv p,iG op,cv nn,cv s,cv w,x,pv i1,aR,.bool leaf,bY,cv q,pv i0,cz,pv i2,ic,bz,lJ,bd,xk,cv z19,lS,jc] H1) λr=>Gy K p m r.1 r.2:=by
  intro m1 H1 r2 leaf q z19 aR bY cz ic bz lJ bd xk lS jc hj hm hl;obtain⟨a0,a1,a2,a3,a4⟩:=KL.ql hj;simp -implicitDefEqProofs only[OM,AT,sS,Nat.reduceAdd];have YH: ∀(lS jc:Value),Ev (λk=>af (run G k 143 [pv p,x] H1) λ_ Hy=>rP (run G k) k [pv p,iG op,cv nn,cv s,cv w,x,pv i1,aR,.bool leaf,bY,cv q,pv i0,cz,pv i2,ic,bz,lJ,bd,xk,cv z19,lS,jc] Hy) λr=>Gy K p m r.1 r.2:=by
   intro lS jc;refine Ev.un (Xy hj (by omega) (λH o hg=>hxs hg.fr) hn) λv Hz mz hj hm=>?_
   exact J2 _ _ _ _ _ _ _ _ _ _ _ _ _ hj (by omega) hl
  refine Ev.eql (λhq=>?_) (λhq=>?_)<;>try simp -implicitDefEqProofs only[sS,Nat.reduceAdd]
  ·exact UW hj hm
  refine Ev.eql (λhq=>?_) (λhq=>?_)<;>try simp -implicitDefEqProofs only[a0,sS,Nat.reduceAdd]
  ·refine Ev.neq (λhq=>?_) (λhq=>?_)<;>try simp -implicitDefEqProofs only[a3,sS,Nat.reduceAdd]
   ·exact YH _ _
   ·cases hf:r2.found<;>simp -implicitDefEqProofs only[sS,Nat.reduceAdd]
    ·exact YH _ _
    ·exact J2 _ _ _ _ _ _ _ _ _ _ _ _ _ hj hm hl
  ·exact J2 _ _ _ _ _ _ _ _ _ _ _ _ _ hj hm hl
 have J0: ∀{m1:Nat} {H1:ae} {r2:dF} (leaf:Bool) (q:Int) (aR bY cz ic bz lJ bd xk bK lS jc:Value),J (KL H b p i0 i1 i2 op (rc bZ) r2) p m1 H1→m1≤m→r2.list=[]→Ev (λk=>rQ (run G k) k [pv p,iG op,cv nn,cv s,cv w,x,pv i1,aR,.bool leaf,bY,cv q,pv i0,cz,pv i2,ic,bz,lJ,bd,xk,bK,lS,jc] H1) λr=>Gy K p m r.1 r.2:=by
  intro m1 H1 r2 leaf q aR bY cz ic bz lJ bd xk bK lS jc hj hm hl;obtain⟨a0,a1,a2,a3,a4⟩:=KL.ql hj;obtain⟨H5,g5,g6,sT⟩:=KL.fin hd hj rfl r2;have Ho:Ev (λk=>af (some (c8 r2 aB,H1)) λy Hy=>af (bS 6 (pv i1) y Hy) λ_ Hy=>af (pS (bV 6 (pv i1) Hy) Hy) λr0 _=>some (Value.tuple #[r0,.bool true],Hy)) λr=>Gy K p m r.1 r.2:=by
   simp -implicitDefEqProofs only[g5,g6,sS,Nat.reduceAdd];exact Ev.ret ⟨_,_,rfl,hl,_,j8 sT,hm⟩
  simp -implicitDefEqProofs only[g5,g6,sS,Nat.reduceAdd] at Ho;have IH: ∀(ic:Value),Ev (λk=>af (run G k 170 [pv p,iG op,cv w,cv q,.bool leaf,.bool r2.found] H1) λy Hy=>af (bQ 0 y Hy) λdC Hy=>af (bQ 1 y Hy) λeF Hy=>af (pS (hO .not eF) Hy) λdX Hy=>aY dX (af (run G k 168 [] Hy) λy Hy=>af (bS 6 (pv i1) y Hy) λ_ Hy=>af (pS (bV 6 (pv i1) Hy) Hy) λr0 _=>some (Value.tuple #[r0,.bool true],Hy))
    (af (bS 1 (.pointer (some ⟨p,8,none⟩)) (cv 0) Hy) λ_ Hy=>af (run G k 133 [pv p,cv (IntKind.i64.wrap (nn+2)),cv s,cv w,dC] Hy) λiS Hy=>af (pS (au (.pointer (some ⟨p,8,none⟩)) Hy) Hy) λE8 Hy=>af (pS (aj Tryz.prog .gtr 3 E8 (cv 0)) Hy) λAf Hy=>aY Af (af (pS (au (.pointer (some ⟨p,8,none⟩)) Hy) Hy) λuU Hy=>af (bS 1 (.pointer (some ⟨p,9,none⟩)) uU Hy) λ_ Hy=>pD (run G k) k [pv p,iG op,cv nn,cv s,cv w,x,pv i1,aR,.bool leaf,bY,cv q,pv i0,cz,pv i2,ic,eF,dX,dC,Af,iS,lS,jc] Hy)
     (pD (run G k) k [pv p,iG op,cv nn,cv s,cv w,x,pv i1,aR,.bool leaf,bY,cv q,pv i0,cz,pv i2,ic,eF,dX,dC,Af,iS,lS,jc] Hy))) λr=>Gy K p m r.1 r.2:=by
   intro ic;refine Ev.dB (Xz hj (by omega) _ _ _ _ _) λz zb Hz mz hj hm=>?_
   cases zb<;>simp -implicitDefEqProofs only[sS,Nat.reduceAdd]
   ·exact UW hj (by omega)
   refine Ev.oP hj λHz hj=>?_
   refine Ev.num (gP hj _ _ _ _) λz Hz mz hj hm=>?_
   refine Ev.nX hj λzr=>?_
   refine Ev.gtr (λhq=>?_) (λhq=>?_)<;>try simp -implicitDefEqProofs only[sS,Nat.reduceAdd]
   ·refine Ev.nX hj λzr=>?_
    refine Ev.oQ hj λHz hj=>?_
    exact J1 _ _ _ _ _ _ _ _ _ _ _ _ _ hj (by omega) hl
   ·exact J1 _ _ _ _ _ _ _ _ _ _ _ _ _ hj (by omega) hl
  simp -implicitDefEqProofs only[ON,AU,sS,Nat.reduceAdd];refine Ev.off hj (λhq=>?_) (λhq=>?_)<;>try simp -implicitDefEqProofs only[a0,sS,Nat.reduceAdd]
  ·(try simp -implicitDefEqProofs only[a4,g5,g6,sS,Nat.reduceAdd]);exact Ho
  refine Ev.eql (λLw=>?_) (λLw=>?_)<;>try simp -implicitDefEqProofs only[a0,a3,sS,Nat.reduceAdd]
  ·cases hf:r2.found<;>simp -implicitDefEqProofs only[a0,sS,Nat.reduceAdd]
   ·refine Ev.eql (λrB=>?_) (λrB=>?_)<;>try simp -implicitDefEqProofs only[a0,a2,a3,a4,hf,g5,g6,sS,Nat.reduceAdd]
    ·exact Ho
    ·rw[hf] at IH;exact IH _
   ·(try simp -implicitDefEqProofs only[a4,g5,g6,sS,Nat.reduceAdd]);exact Ho
  ·refine Ev.eql (λrB=>?_) (λrB=>?_)<;>try simp -implicitDefEqProofs only[a0,a2,a3,a4,sS,Nat.reduceAdd]
   ·cases hf:r2.found<;>simp -implicitDefEqProofs only[a2,a3,a4,hf,g5,g6,sS,Nat.reduceAdd]
    ·exact Ho
    ·rw[hf] at IH;exact IH _
   ·exact IH _
 have a0:=KL.ql sN;simp -implicitDefEqProofs only[aa1,bx,n1,yc,n2,g4,sS,Nat.reduceAdd];refine Ev.aG (dx _) λz=>?_
 try simp -implicitDefEqProofs only[sS,Nat.reduceAdd]
 refine Ev.eql (λLw=>?_) (λLw=>?_)<;>try simp -implicitDefEqProofs only[sS,Nat.reduceAdd]
 ·refine Ev.aG (iA _) λz=>?_
  refine Ev.num (cQ sN _) λzq Hz mz hj hm=>?_
  obtain⟨a0,a1,a2,a3,a4⟩:=KL.ql hj;simp -implicitDefEqProofs only[a1,sS,Nat.reduceAdd];refine Ev.eql (λrB=>?_) (λrB=>?_)<;>try simp -implicitDefEqProofs only[sS,Nat.reduceAdd]
  ·refine Ev.aG (iA _) λz=>?_
   try simp -implicitDefEqProofs only[sS,Nat.reduceAdd]
   refine Ev.num (cQ hj _) λzv Hz mz hj hm=>?_
   obtain⟨H6,g6,vP⟩:=KL.TN hd hj (kr (zq,zv,true));simp -implicitDefEqProofs only[ahv,Tf,g6,sS,Nat.reduceAdd];exact J0 _ _ _ _ _ _ _ _ _ _ _ _ _ vP (by omega) (mB _)
  ·exact J0 _ _ _ _ _ _ _ _ _ _ _ _ _ hj (by omega) rfl
 ·exact J0 _ _ _ _ _ _ _ _ _ _ _ _ _ sN (by omega) rfl
end
section
variable {G:ag} {H H':ae} {o o':an} {p m c:Nat} {K K':ae→an→Prop} {t q:Int} {x:Value} {l:PL} {n i:Nat} {cs:List Value} {T:TypeId}
structure KA (B:ae) (b:an) (p i0 i1:Nat) (t:Int) (op:jZ) (c1:List Value) (x:Value) (n:Nat) (H:ae) (o:an):Prop where
 fr:Fr B b H o [(p:Int)]
 k0:Cl i0 (qj op) 39 H o
 k1:Cl i1 c1 45 H o
 en:IG H o t x n
structure KAd (B:ae) (b:an) (p i0 i1:Nat) (t:Int):Prop where
 e0:i0=B.length
 e1:i1=B.length+1
 lt:t< -100
 ft: ∀i,i<B.length→b i≠t
section
variable {B:ae} {b:an} {i0 i1:Nat} {op:jZ} {c1:List Value}
theorem KAd.ap (h:KAd B b p i0 i1 t):rA t p:=⟨by have:=h.lt;omega,by have:=h.lt;omega,by have:=h.lt;omega⟩
theorem KA.js (hd:KAd B b p i0 i1 t):cW [(p:Int)] (KA B b p i0 i1 t op c1 x n):=λH o H' o' h f=>⟨h.fr.tr f,h.k0.fr f (by simp),h.k1.fr f (by simp),h.en.fr f (by have:=hd.lt;simp;omega)⟩
theorem KA.ql (h:J (KA B b p i0 i1 t op c1 x n) p m H):au (.pointer (some ⟨i0,1,none⟩)) H=some (cv op.key)∧bV 3 (pv i0) H=some (iG op):=by
 obtain⟨_,o,_,hg⟩:=h;exact⟨ak i0 1 _ hg.k0.1,Qj hg.k0.1⟩
theorem KA.fin (hd:KAd B b p i0 i1 t)(h:J (KA B b p i0 i1 t op c1 x n) p m H)(hl:c1.length=6)(r:dF): ∃H2,bS 6 (pv i1) (c8 r aB) H=some (undef,H2)∧bV 6 (pv i1) H2=some (c8 r aB)∧J (KA B b p i0 i1 t op (rc r) x n) p m H2:=by
 obtain⟨_,o,hr,hg⟩:=id h;obtain⟨e0,e1,e2,e3⟩:=id hd;refine⟨_,tK i1 r (s:=aB) rfl H hg.k1.1 hl,jR _ _ _ (aH hg.k1.1),h.Lh (λo hg=>hg.k1) (KA.js hd) λo hg=>⟨hg.fr.put λhh=>by omega,hg.k0.put (by omega),hg.k1.self,hg.en.fr ((Fr.refl H o [-9]).put λ_=>by simp[hg.k1.2]) (by simp;omega)⟩⟩
variable {α:Type} {k:Nat→Value→ae→Option α} {Q:α→Prop} {a1 a2 a3:Int} {ty:TypeId}
theorem Ev.ahw (hd:KAd B b p i0 i1 t)(h:J (KA B b p i0 i1 t op c1 x n) p m H)(hb:n+1≤4294967296)(hk: ∀x' H',J (KA B b p i0 i1 t op c1 x' (n+1)) p m H'→Ev (λn=>k n x' H') Q):
  Ev (λn=>af (cd T 3 24 x (.slice (some ⟨H.length,0,none⟩) 1 1) (H.new ⟨[cv a1,cv a2,cv a3],ty,3,false⟩)) (k n)) Q:=by
 obtain⟨_,o,hr,hg⟩:=h;obtain⟨x',H2,o2,e,s2,f2⟩:=IG.app T ty hg.en a1 a2 a3 hb;rw[e];have ha:=hd.ap;have dH:=hd.lt;refine hk x' H2 ⟨KA.js hd,o2,hr.fr f2 ?_ ?_ ?_,nI (hg.fr.trans f2 (rs:=[t,(p:Int)]) (by simp) (by simp)) hd.ft,hg.k0.fr f2 ?_,hg.k1.fr f2 ?_,s2⟩
 ·simp;omega
 ·simp;omega
 ·simp;omega
 ·simp;omega
 ·simp;omega
end
theorem ahx (a b c:Int):aI Tryz.prog 138 [(0,cv a),(1,cv b),(2,cv c)]=some (.agg #[cv a,cv b,cv c]):=by kernel_rfl
theorem ahy (a b c:Int)(H:ae):aw Tryz.prog 136 1 [(0,.agg #[cv a,cv b,cv c])] H=some (.slice (some ⟨H.length,0,none⟩) 1 1,H.new ⟨[cv a,cv b,cv c],138,3,false⟩):=by kernel_rfl
theorem ac3 (i:Nat)(H:ae):ke Tryz.prog 45 (pv i) H=bV 6 (pv i) H:=by kernel_rfl
theorem PT (h:J K p m H)(hM:m≤2147483648)(op:jZ):bN (run G) 160 [pv p,iG op] H (Gy K p (m-1)):=by
 refine Ev.up (t:=λk=>ab5 (run G k) k (pv p) (iG op) H) ?_ λk=>WC ..
 obtain⟨hK,b,hr,hk⟩:=id h;obtain⟨i0,e0⟩: ∃i,i=H.length:=⟨_,rfl⟩;obtain⟨i1,e1⟩: ∃i,i=H.length+1:=⟨_,rfl⟩;obtain⟨t,wP,TE⟩:=j5 b H.length;have hd:KAd H b p i0 i1 t:=⟨e0,e1,wP,λi hi=>by have:=TE i hi;omega⟩
 obtain⟨H1,iI⟩: ∃z,z=H.new ⟨qj op,39,1,false⟩:=⟨_,rfl⟩;have l1:H1.length=H.length+1:=by rw[iI,bh]
 obtain⟨H2,jt⟩: ∃z,z=H1.new ⟨rc bZ,45,1,false⟩:=⟨_,rfl⟩;have kY:J (λH' o=>Fr H b H' o [(p:Int)]∧Cl i0 (qj op) 39 H' o) p m H1:=by
  rw[iI];have XA:J (λH' o=>Fr H b H' o [(p:Int)]) p m H:=⟨cW.base (by simp),b,hr,Fr.refl _ _ _⟩
  refine XA.tM _ _ 1 ((cW.base (by simp)).and λH o H' o' a f=>a.fr f (by simp)) λo hk f=>⟨hk.new _ _,?_⟩
  rw[e0];exact Cl.made
 have jJ:J (KA H b p i0 i1 t op (rc bZ) aB 0) p m H2:=by
  rw[jt];refine kY.tM _ _ 1 (KA.js hd) λo hk f=>⟨hk.1.new _ _,hk.2.new,?_,.inl ⟨rfl,rfl⟩⟩
  rw[e1, ←l1];exact Cl.made
 have bx:=tJ op H;rw[←e0, ←iI] at bx;have n1:aO H1 45 1 [cv 0,.bool false,cv 0,cv 0,cv 0,aB]=(pv i1,H2):=by rw[jt,e1, ←l1];rfl
 have j8: ∀{c1:List Value} {x:Value} {n:Nat} {m':Nat} {H':ae},J (KA H b p i0 i1 t op c1 x n) p m' H'→J K p m' H':=λhj=>hj.mono hK λo' hg=>hK _ _ _ _ hk hg.fr
 simp -implicitDefEqProofs only[ab5,bx,n1,sS,Nat.reduceAdd];refine Ev.loop (k:=m) (λk vs Hx=>∃(x:Value) (n:Nat) (nn:Int) (x5 aW x8 x9 bY di cZ eM:Value),J (KA H b p i0 i1 t op (rc bZ) x n) p k Hx∧k≤m∧n+k≤m∧vs=[pv p,iG op,pv i1,x5,aW,cv nn,pv i0,x8,x9,bY,di,cZ,eM,x])
  (λr=>∃(c1:List Value) (x:Value) (n m1:Nat) (x5 aW x6 x8 x9 bY di cZ eM:Value),J (KA H b p i0 i1 t op c1 x n) p m1 r.2.2∧c1.length=6∧m1≤m-1∧r.2.1=[pv p,iG op,pv i1,x5,aW,x6,pv i0,x8,x9,bY,di,cZ,eM,x]∧(r.1= .exit 0∨(r.1= .ret∧∃rr bb,x5= .bool bb∧c1=rc rr∧rr.list=[])))
  ⟨aB,0,1,_,_,_,_,_,_,_,_,jJ,Nat.le_refl _,by omega,rfl⟩ ?_ ?_
 ·rintro k vs Hx ⟨x,n,nn,x5,aW,x8,x9,bY,di,cZ,eM,hj,hkm,hnk,rfl⟩;obtain⟨a0,a1⟩:=KA.ql hj;simp -implicitDefEqProofs only[O7,Br,sS,Nat.reduceAdd];refine Ev.off hj (λhq=>?_) (λhq=>?_)<;>try simp -implicitDefEqProofs only[a0,sS,Nat.reduceAdd]
  ·exact Ev.ret (.inr ⟨by simp,_,_,_,_,_,_,_,_,_,_,_,_,_,hj,rfl,by omega,rfl,.inl rfl⟩)
  refine Ev.num (eV hj _ _) λzs Hz mz hj hm=>?_
  refine Ev.num (fZ hj _) λzw Hz mz hj hm=>?_
  refine Ev.aG (dx _) λzk=>?_
  try simp -implicitDefEqProofs only[sS,Nat.reduceAdd]
  refine Ev.eql (λhq=>?_) (λhq=>?_)<;>try simp -implicitDefEqProofs only[sS,Nat.reduceAdd]
  ·refine Ev.aG (iA _) λza=>?_
   refine Ev.bool (sd hj (by omega) _) λz Hz mz hj hm=>?_
   cases z<;>simp -implicitDefEqProofs only[sS,Nat.reduceAdd]
   ·refine Ev.call (M6 hj) ?_;rintro v H5 ⟨rfl,hj⟩;obtain⟨H6,g5,g6,sT⟩:=KA.fin hd hj rfl (eJ 8);simp -implicitDefEqProofs only[g5,sS,Nat.reduceAdd];exact Ev.ret (.inr ⟨by simp,_,_,_,_,_,_,_,_,_,_,_,_,_,sT,rfl,by omega,rfl,.inr ⟨rfl,_,_,rfl,rfl,rfl⟩⟩)
   ·obtain⟨H6,g5,g6,sT⟩:=KA.fin hd hj rfl bZ;simp -implicitDefEqProofs only[yc,g5,sS,Nat.reduceAdd];exact Ev.ret (.inr ⟨by simp,_,_,_,_,_,_,_,_,_,_,_,_,_,sT,rfl,by omega,rfl,.inr ⟨rfl,_,_,rfl,rfl,rfl⟩⟩)
  refine Ev.eql (λhq=>?_) (λhq=>?_)<;>try simp -implicitDefEqProofs only[ahx,ahy,sS,Nat.reduceAdd]
  ·refine Ev.ahw hd hj (by omega) λx' Hz hj=>?_
   refine Ev.aG (iA _) λza=>?_
   try simp -implicitDefEqProofs only[sS,Nat.reduceAdd]
   exact Ev.ret (.inl ⟨rfl,_,by omega,_,_,_,_,_,_,_,_,_,_,_,hj,by omega,by omega,rfl⟩)
  ·obtain⟨a0,a1⟩:=KA.ql hj;simp -implicitDefEqProofs only[a1,sS,Nat.reduceAdd];refine Ev.call (afj hj (by omega) (λH o hg=>hg.en) (by have:=hd.lt;omega) (by omega) op _ _ _) ?_
   rintro v H5 ⟨rr,bb,rfl,hl,m',hj,GD⟩;obtain⟨H6,g5,g6,sT⟩:=KA.fin hd hj rfl rr;simp -implicitDefEqProofs only[g5,sS,Nat.reduceAdd];exact Ev.ret (.inr ⟨by simp,_,_,_,_,_,_,_,_,_,_,_,_,_,sT,rfl,by omega,rfl,.inr ⟨rfl,_,_,rfl,rfl,hl⟩⟩)
 ·rintro e vs Hx ⟨c1,x,n,m1,x5,aW,x6,x8,x9,bY,di,cZ,eM,hj,hc,hm,rfl,he⟩;rcases he with he|⟨he,rr,bb,rfl,rfl,hl⟩
  ·simp only at he;subst he;obtain⟨H6,g5,g6,sT⟩:=KA.fin hd hj hc bZ;simp -implicitDefEqProofs only[O8,Bt,yc,g5,g6,sS,Nat.reduceAdd];exact Ev.ret ⟨_,_,rfl,rfl,_,j8 sT,hm⟩
  ·simp only at he;subst he;obtain⟨_,o1,_,hg⟩:=id hj;have hl6:=jR i1 rr (s:=aB) Hx hg.k1.1;show Ev (λ_=>af (pS (ke Tryz.prog 45 (pv i1) Hx) Hx) λv _=>some (Value.tuple #[v,.bool bb],Hx)) _
   simp -implicitDefEqProofs only[ac3,hl6,sS,Nat.reduceAdd];exact Ev.ret ⟨_,_,rfl,hl,_,j8 hj,hm⟩
abbrev ahz (K:ae→an→Prop)(p c:Nat):Value→ae→Prop:=λv H'=>∃r,v=c8 r aB∧r.list=[]∧∃m',J K p m' H'∧m'≤c
theorem TP (h:J K p m H)(hM:m≤2147483648)(op:jZ):bN (run G) 144 [pv p,iG op] H (ahz K p m):=by
 refine Ev.up (t:=λk=>abI (run G k) k (pv p) (iG op) H) ?_ λk=>Wp ..
 obtain⟨hK,b,hr,hk⟩:=id h;obtain⟨i0,e0⟩: ∃i,i=H.length:=⟨_,rfl⟩;obtain⟨i1,e1⟩: ∃i,i=H.length+1:=⟨_,rfl⟩;obtain⟨t,wP,TE⟩:=j5 b H.length;have hd:KAd H b p i0 i1 t:=⟨e0,e1,wP,λi hi=>by have:=TE i hi;omega⟩
 obtain⟨H1,iI⟩: ∃z,z=H.new ⟨qj op,39,1,false⟩:=⟨_,rfl⟩;have l1:H1.length=H.length+1:=by rw[iI,bh]
 obtain⟨H2,jt⟩: ∃z,z=H1.new ⟨rc bZ,45,1,false⟩:=⟨_,rfl⟩;have kY:J (λH' o=>Fr H b H' o [(p:Int)]∧Cl i0 (qj op) 39 H' o) p m H1:=by
  rw[iI];have XA:J (λH' o=>Fr H b H' o [(p:Int)]) p m H:=⟨cW.base (by simp),b,hr,Fr.refl _ _ _⟩
  refine XA.tM _ _ 1 ((cW.base (by simp)).and λH o H' o' a f=>a.fr f (by simp)) λo hk f=>⟨hk.new _ _,?_⟩
  rw[e0];exact Cl.made
 have jJ:J (KA H b p i0 i1 t op (rc bZ) aB 0) p m H2:=by
  rw[jt];refine kY.tM _ _ 1 (KA.js hd) λo hk f=>⟨hk.1.new _ _,hk.2.new,?_,.inl ⟨rfl,rfl⟩⟩
  rw[e1, ←l1];exact Cl.made
 have bx:=tJ op H;rw[←e0, ←iI] at bx;have n1:aO H1 45 1 [cv 0,.bool false,cv 0,cv 0,cv 0,aB]=(pv i1,H2):=by rw[jt,e1, ←l1];rfl
 have j8: ∀{c1:List Value} {x:Value} {n:Nat} {m':Nat} {H':ae},J (KA H b p i0 i1 t op c1 x n) p m' H'→J K p m' H':=λhj=>hj.mono hK λo' hg=>hK _ _ _ _ hk hg.fr
 simp -implicitDefEqProofs only[abI,bx,n1,sS,Nat.reduceAdd];refine Ev.loop (k:=m) (λk vs Hx=>∃(aU x6 bz x5:Value),J (KA H b p i0 i1 t op (rc bZ) aB 0) p k Hx∧k≤m∧vs=[pv p,iG op,pv i1,aU,pv i0,x6,bz,x5])
  (λr=>∃(c1:List Value) (m1:Nat) (aU x6 bz x5:Value),J (KA H b p i0 i1 t op c1 aB 0) p m1 r.2.2∧c1.length=6∧m1≤m∧r.2.1=[pv p,iG op,pv i1,aU,pv i0,x6,bz,x5]∧(r.1= .exit 0∨(r.1= .ret∧∃rr,c1=rc rr∧rr.list=[])))
  ⟨_,_,_,_,jJ,Nat.le_refl _,rfl⟩ ?_ ?_
 ·rintro k vs Hx ⟨aU,x6,bz,x5,hj,hkm,rfl⟩;obtain⟨a0,a1⟩:=KA.ql hj;simp -implicitDefEqProofs only[OV,Bh,sS,Nat.reduceAdd];refine Ev.off hj (λhq=>?_) (λhq=>?_)<;>try simp -implicitDefEqProofs only[a1,sS,Nat.reduceAdd]
  ·exact Ev.ret (.inr ⟨by simp,_,_,_,_,_,_,hj,rfl,by omega,rfl,.inl rfl⟩)
  refine Ev.call (PT hj (by omega) op) ?_
  rintro v H5 ⟨rr,bb,rfl,hl,m',hj,GD⟩;obtain⟨H6,II⟩: ∃z,z=H5.new ⟨rc bZ,45,1,false⟩:=⟨_,rfl⟩;have n2:aO H5 45 1 [cv 0,.bool false,cv 0,cv 0,cv 0,aB]=(pv H5.length,H6):=by rw[II];rfl
  have vP:J (λH' o=>KA H b p i0 i1 t op (rc bZ) aB 0 H' o∧Cl H5.length (rc bZ) 45 H' o∧i1<H5.length) p m' H6:=by
   rw[II];refine hj.tM _ _ 1 ((KA.js hd).and λH o H' o' a f=>⟨a.1.fr f (by simp),a.2⟩) λo hk f=>⟨KA.js hd _ _ _ _ hk (f.wk (by simp)),Cl.made,aq hk.k1.1⟩
  obtain⟨_,o6,hr6,hg6,hc6,hi6⟩:=id vP;have ky:=tK H5.length rr (s:=aB) rfl H6 hc6.1 rfl;obtain⟨H7,UH⟩: ∃z,z=H6.put H5.length ⟨rc rr,45,1,false⟩:=⟨_,rfl⟩;rw[←UH] at ky;have YI:J (λH' o=>KA H b p i0 i1 t op (rc bZ) aB 0 H' o∧Cl H5.length (rc rr) 45 H' o∧i1<H5.length) p m' H7:=by
   rw[UH];refine vP.Lh (λo hg=>hg.2.1) ((KA.js hd).and λH o H' o' a f=>⟨a.1.fr f (by simp),a.2⟩) λo hg=>⟨⟨hg.1.fr.put λhh=>by omega,hg.1.k0.put (by omega),hg.1.k1.put (by omega),.inl ⟨rfl,rfl⟩⟩,hg.2.1.self,hg.2.2⟩
  have hj8:J (KA H b p i0 i1 t op (rc bZ) aB 0) p m' H7:=YI.mono (KA.js hd) λo a=>a.1
  obtain⟨_,o7,hr7,hg7,hc7,hi7⟩:=id YI;have fN:=jR H5.length rr (s:=aB) H7 hc7.1;obtain⟨H8,g5,g6,sT⟩:=KA.fin hd hj8 rfl rr;simp -implicitDefEqProofs only[n2,ky,sS,Nat.reduceAdd];cases bb<;>simp -implicitDefEqProofs only[fN,g5,sS,Nat.reduceAdd]
  ·exact Ev.ret (.inl ⟨rfl,_,by omega,_,_,_,_,hj8,by omega,rfl⟩)
  ·exact Ev.ret (.inr ⟨by simp,_,_,_,_,_,_,sT,rfl,by omega,rfl,.inr ⟨rfl,_,rfl,hl⟩⟩)
 ·rintro e vs Hx ⟨c1,m1,aU,x6,bz,x5,hj,hc,hm,rfl,he⟩;rcases he with he|⟨he,rr,rfl,hl⟩
  ·simp only at he;subst he;obtain⟨H6,g5,g6,sT⟩:=KA.fin hd hj hc bZ;simp -implicitDefEqProofs only[OW,Bi,yc,g5,g6,sS,Nat.reduceAdd];exact Ev.ret ⟨_,rfl,rfl,_,j8 sT,hm⟩
  ·simp only at he;subst he;obtain⟨_,o1,_,hg⟩:=id hj;have hl6:=jR i1 rr (s:=aB) Hx hg.k1.1;show Ev (λ_=>af (pS (ke Tryz.prog 45 (pv i1) Hx) Hx) λv _=>some (v,Hx)) _
   simp -implicitDefEqProofs only[ac3,hl6,sS,Nat.reduceAdd];exact Ev.ret ⟨_,rfl,hl,_,j8 hj,hm⟩
end
end Go.Proofs.YtjgmnoaalbbonaaGreat.Fun
end
