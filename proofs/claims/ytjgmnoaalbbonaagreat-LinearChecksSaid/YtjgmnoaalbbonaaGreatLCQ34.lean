/- Texts of the proof of linearChecks_holds, put together by a small program of ours (names shortened, spaces taken out). No condition beyond the given statement. -/
import Derived.Test.YtjgmnoaalbbonaaGreatLCQ17
import Derived.Test.YtjgmnoaalbbonaaGreatLCQ20
import Derived.Test.YtjgmnoaalbbonaaGreatLCQ21
import Derived.Test.YtjgmnoaalbbonaaGreatLCQ33
import Derived.Test.YtjgmnoaalbbonaaGreatLCQ22
import Derived.Test.YtjgmnoaalbbonaaGreatLCQ26
set_option linter.unusedVariables false
set_option linter.unusedSimpArgs false
set_option linter.unnecessarySimpa false
noncomputable section
section
namespace Go.Proofs.YtjgmnoaalbbonaaGreat.Fun
open Go Go.RowKit Go.Proofs.YtjgmnoaalbbonaaGreatA.Am
set_option maxRecDepth 10000
section
variable {G:ag} {H H':ae} {o o':an} {p m c:Nat} {K:ae→an→Prop} {t:Int} {x:Value} {l:PL}
theorem yV (n:Nat):ct [cv 0] n=(List.replicate n (0:Int)).map cv:=by
 simp[ct,List.flatten_replicate_singleton]
theorem J.GN (h:J K p m H)(f: ∀o,∃o',Fr H o H' o' []):J K p m H':=by
 obtain⟨hK,o,hr,hk⟩:=h;obtain⟨o',f⟩:=f o;exact⟨hK,o',hr.fr f (by simp) (by simp) (by simp),hK _ _ _ _ hk (f.wk (by simp))⟩
theorem ahu (h:J K p m H){d:Int}(h1:1≤d∧d≤128){T:TypeId}: ∃s1 s2 H1 H2 l1 l2,Zq T 1 8 [cv 0] (cv (d-1)) (cv (d-1)) (H.dy 1)=some (s1,H1)∧CL H.length (msB T 1 8 [cv 0] (cv d) (cv d)) H1=some (s2,H2)∧J K p m H2∧jb H2 s1 l1∧jb H2 s2 l2∧l1.length+l2.length≤1000:=by
 obtain⟨e,he⟩: ∃e:Nat,d=e+1:=⟨(d-1).toNat,by omega⟩
 subst he;have e1:(e:Int)+1-1=e:=by omega
 have e2:((e:Int)+1).toNat=e+1:=by omega
 have hb:msB T 1 8 [cv 0] (cv ((e:Int)+1)) (cv ((e:Int)+1))=some (λi=>.slice (some ⟨i,0,none⟩) (e+1) (e+1),⟨ct [cv 0] (e+1),T,1,false⟩):=by
  unfold msB Zq;simp only[e2];rw[if_pos (by omega)];rfl
 have hlen:(H.dy 1).length=H.length+1:=ou 1;have hole:((H.dy 1).new ⟨ct [cv 0] e,T,1,false⟩)[H.length]? =some .hole:=by
  unfold ae.new;rw[List.getElem?_append_left (by omega)];exact rM
 refine⟨.slice (some ⟨H.length+1,0,none⟩) e e,.slice (some ⟨H.length,0,none⟩) (e+1) (e+1),(H.dy 1).new ⟨ct [cv 0] e,T,1,false⟩,((H.dy 1).new ⟨ct [cv 0] e,T,1,false⟩).set H.length (.hZ ⟨ct [cv 0] (e+1),T,1,false⟩),List.replicate e 0,List.replicate (e+1) 0,?_,?_,?_,?_,?_,?_⟩
 ·unfold Zq;simp only[e1,hlen,Int.toNat_natCast];rw[if_pos (by omega)]
 ·rw[hb];exact yw hole
 ·refine h.GN λo=>⟨(o.up H.length (-9)).up (H.length+1) (-9),?_⟩
  refine⟨λi hi _=>?_,λi hi=>?_,?_⟩
  ·rw[hX (by omega)]
   unfold ae.new;rw[List.getElem?_append_left (by omega),tw hi]
  ·rw[dc (by omega),dc (by omega)]
  ·simp only[List.length_set,bh,hlen];omega
 ·refine .inr ⟨H.length+1,0,e,by simp,λ_=>⟨⟨ct [cv 0] e,T,1,false⟩,?_,rfl,?_,?_⟩⟩
  ·have g:=az (H:=H.dy 1) (c:=⟨ct [cv 0] e,T,1,false⟩);rw[hlen] at g;rw[cT (hX (by omega))];exact g
  ·simp[yV]
  ·simp[yV]
 ·refine .inr ⟨H.length,0,e+1,by simp,λ_=>⟨⟨ct [cv 0] (e+1),T,1,false⟩,?_,rfl,?_,?_⟩⟩
  ·exact mg (by rw[bh,hlen];omega)
  ·simp[yV]
  ·simp[yV]
 ·simp;have:(e:Int)+1≤128:=h1.2;omega
theorem J.sl (h:J (λH o=>K H o∧ee H o t x l) p m H)(hK:cW [(p:Int)] K):J K p m H:=h.mono hK λo a=>a.1
theorem vH (h:J K p m H)(hM:m≤2147483648)(a n:Int):bN (run G) 155 [pv p,cv a,cv n] H (ID K p m):=by
 refine Ev.up (t:=λk=>ab4 (run G k) k (pv p) (cv a) (cv n) H) ?_ λk=>WB ..
 simp -implicitDefEqProofs only[ab4,sS,Nat.reduceAdd];have hK:=h.1;have J0: ∀{y:Value} {l:PL} {t:Int} {m1:Nat} {H1:ae} (x6 x7 aR x8 x9 aK cN cZ:Value),t≠(p:Int)→J (λH o=>K H o∧ee H o t y l) p m1 H1→m1≤m→l.length≤2147483648→Ev (λk=>yM (run G k) k [pv p,cv a,cv n,x6,x7,aR,x8,x9,aK,cN,cZ,y] H1) λr=>ID K p m r.1 r.2:=by
  intro y l t m1 H1 x6 x7 aR x8 x9 aK cN cZ ht hj hm hl;simp -implicitDefEqProofs only[O6,Bq,sS,Nat.reduceAdd];have GV:=hj.sl hK;refine Ev.off hj (λhq=>?_) (λhq=>?_)<;>try simp -implicitDefEqProofs only[sS,Nat.reduceAdd]
  ·exact Ev.ret ⟨_,_,rfl,_,GV,by omega⟩
  ·refine Ev.dB (TM _ rfl hl hj ht λH o a=>a.2) λz zb Hz mz UG hm=>?_
   have Gx:=UG.sl hK
   try simp -implicitDefEqProofs only[sS,Nat.reduceAdd]
   exact Ev.ret ⟨_,_,rfl,_,Gx,by omega⟩
 refine Ev.geq (λhq=>?_) (λhq=>?_)<;>try simp -implicitDefEqProofs only[sS,Nat.reduceAdd]
 ·refine Ev.call (rz _) ?_;rintro v Yh ⟨rfl,rfl⟩;have hd:=vG n;have hx:1≤(if(1:Int)>dJ n then 1 else dJ n)∧(if(1:Int)>dJ n then 1 else dJ n)≤128:=by split<;>omega
  simp -implicitDefEqProofs only[YF,sS,Nat.reduceAdd];obtain⟨d,hd2⟩: ∃d,d=(if(1:Int)>dJ n then 1 else dJ n):=⟨_,rfl⟩
  rw[←hd2] at hx ⊢;obtain⟨s1,s2,H2,H3,l1,l2,g1,g2,g3,g4,g5,g6⟩:=ahu h hx (T:=2);have hw:IntKind.i64.wrap (d-1)=d-1:=jE (by omega)
  simp -implicitDefEqProofs only[hw,g1,Nat.add_zero,g2,sS,Nat.reduceAdd];refine Ev.wd (pL g3 _ g4 g5 (by omega)) λw Hz hjw=>?_
  repeat' (first|exact Ev.ret ⟨_,_,rfl,_,by assumption,by omega⟩| ((with_reducible first|refine Ev.lss (λhq=>?_) (λhq=>?_)|refine Ev.gtr (λhq=>?_) (λhq=>?_)|refine Ev.leq (λhq=>?_) (λhq=>?_)|refine Ev.geq (λhq=>?_) (λhq=>?_)|refine Ev.eql (λhq=>?_) (λhq=>?_)|refine Ev.neq (λhq=>?_) (λhq=>?_)|refine Ev.off ‹_› (λhq=>?_) (λhq=>?_)|refine Ev.aG (dx _) λz=>?_ |refine Ev.aG (iA _) λz=>?_ |refine Ev.aG (cS _ _) λz=>?_ |refine Ev.aG (bX _ _ _) λz=>?_ |refine Ev.aG (iJ _ _) λz=>?_ |refine Ev.aG (df _) λz=>?_ |refine Ev.aG (dk _ _ _ _) λz=>?_ |refine Ev.num (cQ ‹_› _) λz Hz mz hj hm=>?_ |refine Ev.num (fw ‹_› _ _) λz Hz mz hj hm=>?_ |refine Ev.num (fj ‹_› _) λz Hz mz hj hm=>?_ |refine Ev.num (fZ ‹_› _) λz Hz mz hj hm=>?_ |refine Ev.num (eV ‹_› _ _) λz Hz mz hj hm=>?_ |refine Ev.num (gP ‹_› _ _ _ _) λz Hz mz hj hm=>?_ |refine Ev.bool (fx ‹_› _ _ _) λz Hz mz hj hm=>?_ |refine Ev.un (cO ‹_› _ _) λz Hz mz hj hm=>?_ |refine Ev.un (fY ‹_› _) λz Hz mz hj hm=>?_ |refine Ev.dB (dj ‹_›) λz zb Hz mz hj hm=>?_ |refine Ev.dB (gO ‹_› _) λz zb Hz mz hj hm=>?_ |refine Ev.kc (dp ‹_› _ _) λz zb Hz mz hj hm=>?_ |refine Ev.num (iK _ ‹_› _) λz Hz mz hj hm=>?_ |refine Ev.dB (vH ‹_› (by omega) _ _) λz zb Hz mz hj hm=>?_ |refine Ev.wd (cP ‹_› _ _ _ _) λw Hz hj=>?_ |refine Ev.wd (cu ‹_›) λw Hz hj=>?_ |refine Ev.wd (cL ‹_› _ _) λw Hz hj=>?_ |refine Ev.wd (bM ‹_› _ _ _) λw Hz hj=>?_ |refine Ev.oP ‹_› λHz hj=>?_ |refine Ev.oQ ‹_› λHz hj=>?_ |refine Ev.nX ‹_› λz=>?_ |refine Ev.br (λhq=>?_) (λhq=>?_))<;>try simp -implicitDefEqProofs only[sS,Nat.reduceAdd]))
 ·refine Ev.eql (λrB=>?_) (λrB=>?_)<;>try simp -implicitDefEqProofs only[sS,Nat.reduceAdd]
  ·refine Ev.call (Ed h hM _ _ _) ?_;rintro v H1 ⟨t,l,m',ht,hj,hm,hl⟩
   try simp -implicitDefEqProofs only[sS,Nat.reduceAdd]
   exact J0 _ _ _ _ _ _ _ _ ht hj (by omega) (by omega)
  ·refine J0 (t:= -9) (l:=[]) _ _ _ _ _ _ _ _ (by omega) (m1:=m) ⟨hK.and (cW.lZ (by simp)),?_⟩ (Nat.le_refl _) (by simp)
   obtain⟨_,o,hr,hk⟩:=h;exact⟨o,hr,hk,.nil⟩
theorem rC (h:J K p m H)(hM:m≤2147483648)(a n x d i:Int):bN (run G) 167 [pv p,cv a,cv n,cv x,cv d,cv i] H (Xt K p m):=by
 refine Ev.up (t:=λk=>aaH (run G k) k (pv p) (cv a) (cv n) (cv x) (cv d) (cv i) H) ?_ λk=>VS ..
 simp -implicitDefEqProofs only[aaH,sS,Nat.reduceAdd];have hK:=h.1;refine Ev.call (TF _ _) ?_;rintro v H1 ⟨rfl,rfl⟩
 try simp -implicitDefEqProofs only[sS,Nat.reduceAdd]
 refine Ev.call (Lf _ _) ?_;rintro v H1 ⟨rfl,rfl⟩
 try simp -implicitDefEqProofs only[sS,Nat.reduceAdd]
 refine Ev.call (Ed h hM _ _ _) ?_;rintro y H1 ⟨t,l,m',ht,hj,hm,hl⟩
 try simp -implicitDefEqProofs only[sS,Nat.reduceAdd]
 refine Ev.off hj (λhq=>?_) (λhq=>?_)<;>try simp -implicitDefEqProofs only[sS,Nat.reduceAdd]
 ·exact Ev.ret ⟨_,rfl,_,hj.sl hK,by omega⟩
 refine Ev.dB (TM _ rfl (by omega) hj ht λH o a=>a.2) λz zb Hz mz UG hmz=>?_
 simp -implicitDefEqProofs only[sS,Nat.reduceAdd];have Gx:=UG.sl hK;have J0: ∀{m1:Nat} {H1:ae} (x6 aR cz aW bn cZ eF:Value),J K p m1 H1→m1≤m→Ev (λk=>yH (run G k) k [pv p,cv a,cv n,cv x,cv d,cv i,x6,aR,cz,aW,bn,cZ,eF,cv z] H1) λr=>Xt K p m r.1 r.2:=by
  intro m1 H1 x6 aR cz aW bn cZ eF hj hm;simp -implicitDefEqProofs only[OE,AL,sS,Nat.reduceAdd];repeat' (first|exact Ev.ret ⟨_,rfl,_,by assumption,by omega⟩| ((with_reducible first|refine Ev.lss (λhq=>?_) (λhq=>?_)|refine Ev.gtr (λhq=>?_) (λhq=>?_)|refine Ev.leq (λhq=>?_) (λhq=>?_)|refine Ev.geq (λhq=>?_) (λhq=>?_)|refine Ev.eql (λhq=>?_) (λhq=>?_)|refine Ev.neq (λhq=>?_) (λhq=>?_)|refine Ev.off ‹_› (λhq=>?_) (λhq=>?_)|refine Ev.aG (dx _) λz=>?_ |refine Ev.aG (iA _) λz=>?_ |refine Ev.aG (cS _ _) λz=>?_ |refine Ev.aG (bX _ _ _) λz=>?_ |refine Ev.aG (iJ _ _) λz=>?_ |refine Ev.aG (df _) λz=>?_ |refine Ev.aG (dk _ _ _ _) λz=>?_ |refine Ev.num (cQ ‹_› _) λz Hz mz hj hm=>?_ |refine Ev.num (fw ‹_› _ _) λz Hz mz hj hm=>?_ |refine Ev.num (fj ‹_› _) λz Hz mz hj hm=>?_ |refine Ev.num (fZ ‹_› _) λz Hz mz hj hm=>?_ |refine Ev.num (eV ‹_› _ _) λz Hz mz hj hm=>?_ |refine Ev.num (gP ‹_› _ _ _ _) λz Hz mz hj hm=>?_ |refine Ev.bool (fx ‹_› _ _ _) λz Hz mz hj hm=>?_ |refine Ev.un (cO ‹_› _ _) λz Hz mz hj hm=>?_ |refine Ev.un (fY ‹_› _) λz Hz mz hj hm=>?_ |refine Ev.dB (dj ‹_›) λz zb Hz mz hj hm=>?_ |refine Ev.dB (gO ‹_› _) λz zb Hz mz hj hm=>?_ |refine Ev.kc (dp ‹_› _ _) λz zb Hz mz hj hm=>?_ |refine Ev.num (iK _ ‹_› _) λz Hz mz hj hm=>?_ |refine Ev.dB (vH ‹_› (by omega) _ _) λz zb Hz mz hj hm=>?_ |refine Ev.bool (rC ‹_› (by omega) _ _ _ _ _) λz Hz mz hj hm=>?_ |refine Ev.wd (cP ‹_› _ _ _ _) λw Hz hj=>?_ |refine Ev.wd (cu ‹_›) λw Hz hj=>?_ |refine Ev.wd (cL ‹_› _ _) λw Hz hj=>?_ |refine Ev.wd (bM ‹_› _ _ _) λw Hz hj=>?_ |refine Ev.oP ‹_› λHz hj=>?_ |refine Ev.oQ ‹_› λHz hj=>?_ |refine Ev.nX ‹_› λz=>?_ |refine Ev.br (λhq=>?_) (λhq=>?_))<;>try simp -implicitDefEqProofs only[sS,Nat.reduceAdd]))
 refine Ev.br (λhq=>?_) (λhq=>?_)<;>try simp -implicitDefEqProofs only[sS,Nat.reduceAdd]
 ·exact Ev.ret ⟨_,rfl,_,Gx,by omega⟩
 obtain⟨_,o1,JA,Ls,hs⟩:=id UG;refine Ev.gtr (λhq=>?_) (λhq=>?_)<;>try simp -implicitDefEqProofs only[hs.len,sS,Nat.reduceAdd]
 ·refine Ev.gtr (λrB=>?_) (λrB=>?_)<;>try simp -implicitDefEqProofs only[sS,Nat.reduceAdd]
  ·refine Ev.aG (cS _ _) λzk=>?_
   obtain⟨i',off,b,e1,e2,e3,e4⟩:=hs.idx (j:=0) (by omega)
   obtain⟨e5,e6,_⟩:=e4 _ e2;simp only[Int.natCast_zero] at e1;simp -implicitDefEqProofs only[e1,ax,Nat.add_zero,e5,sS,Nat.reduceAdd];refine Ev.un (cO Gx _ _) λv Hz mz hj hm=>?_
   try simp -implicitDefEqProofs only[e5,sS,Nat.reduceAdd]
   exact J0 _ _ _ _ _ _ _ hj (by omega)
  ·exact J0 _ _ _ _ _ _ _ Gx (by omega)
 ·exact J0 _ _ _ _ _ _ _ Gx (by omega)
theorem pM (h:J K p m H)(hM:m≤2147483648)(a t n x:Int):bN (run G) 156 [pv p,cv a,cv t,cv n,cv x] H (Xt K p m):=by
 refine Ev.up (t:=λk=>abN (run G k) k (pv p) (cv a) (cv t) (cv n) (cv x) H) ?_ λk=>Ws ..
 simp -implicitDefEqProofs only[abN,sS,Nat.reduceAdd];refine Ev.call (rz _) ?_;rintro v Yh ⟨rfl,rfl⟩
 try simp -implicitDefEqProofs only[sS,Nat.reduceAdd]
 refine Ev.D9 (λvs=>∃(aK bq aP cC cz cZ aR ff aW gl gT:Value),vs=[pv p,cv a,cv t,cv n,cv x,aK,bq,aP,cv (dJ n),cC,cz,cZ,aR,ff,aW,gl,gT])
  (λe vs=>(e= .exit 0∨(e= .ret∧∃u,vs[5]? =some (.bool u)))∧∃(aK bq aP cC cz cZ aR ff aW gl gT:Value),vs=[pv p,cv a,cv t,cv n,cv x,aK,bq,aP,cv (dJ n),cC,cz,cZ,aR,ff,aW,gl,gT]) h ⟨_,_,_,_,_,_,_,_,_,_,_,rfl⟩ ?_ ?_
 ·rintro m1 vs Hx hj hm ⟨aK,bq,aP,cC,cz,cZ,aR,ff,aW,gl,gT,rfl⟩;simp -implicitDefEqProofs only[O1,Bn,sS,Nat.reduceAdd];repeat' (first| (with_reducible exact Ev.ret (.inl ⟨rfl,⟨_,by assumption,by omega⟩,_,_,_,_,_,_,_,_,_,_,_,rfl⟩))| (with_reducible exact Ev.ret (.inr ⟨by simp,⟨_,by assumption,by omega⟩,.inl rfl,_,_,_,_,_,_,_,_,_,_,_,rfl⟩))| (with_reducible exact Ev.ret (.inr ⟨by simp,⟨_,by assumption,by omega⟩,.inr ⟨rfl,_,rfl⟩,_,_,_,_,_,_,_,_,_,_,_,rfl⟩))| ((with_reducible first|refine Ev.lss (λhq=>?_) (λhq=>?_)|refine Ev.gtr (λhq=>?_) (λhq=>?_)|refine Ev.leq (λhq=>?_) (λhq=>?_)|refine Ev.geq (λhq=>?_) (λhq=>?_)|refine Ev.eql (λhq=>?_) (λhq=>?_)|refine Ev.neq (λhq=>?_) (λhq=>?_)|refine Ev.off ‹_› (λhq=>?_) (λhq=>?_)|refine Ev.aG (dx _) λz=>?_ |refine Ev.aG (iA _) λz=>?_ |refine Ev.aG (cS _ _) λz=>?_ |refine Ev.aG (bX _ _ _) λz=>?_ |refine Ev.aG (iJ _ _) λz=>?_ |refine Ev.aG (df _) λz=>?_ |refine Ev.aG (dk _ _ _ _) λz=>?_ |refine Ev.num (cQ ‹_› _) λz Hz mz hj hm=>?_ |refine Ev.num (fw ‹_› _ _) λz Hz mz hj hm=>?_ |refine Ev.num (fj ‹_› _) λz Hz mz hj hm=>?_ |refine Ev.num (fZ ‹_› _) λz Hz mz hj hm=>?_ |refine Ev.num (eV ‹_› _ _) λz Hz mz hj hm=>?_ |refine Ev.num (gP ‹_› _ _ _ _) λz Hz mz hj hm=>?_ |refine Ev.bool (fx ‹_› _ _ _) λz Hz mz hj hm=>?_ |refine Ev.un (cO ‹_› _ _) λz Hz mz hj hm=>?_ |refine Ev.un (fY ‹_› _) λz Hz mz hj hm=>?_ |refine Ev.dB (dj ‹_›) λz zb Hz mz hj hm=>?_ |refine Ev.dB (gO ‹_› _) λz zb Hz mz hj hm=>?_ |refine Ev.kc (dp ‹_› _ _) λz zb Hz mz hj hm=>?_ |refine Ev.num (iK _ ‹_› _) λz Hz mz hj hm=>?_ |refine Ev.dB (vH ‹_› (by omega) _ _) λz zb Hz mz hj hm=>?_ |refine Ev.bool (rC ‹_› (by omega) _ _ _ _ _) λz Hz mz hj hm=>?_ |refine Ev.bool (pM ‹_› (by omega) _ _ _ _) λz Hz mz hj hm=>?_ |refine Ev.wd (cP ‹_› _ _ _ _) λw Hz hj=>?_ |refine Ev.wd (cu ‹_›) λw Hz hj=>?_ |refine Ev.wd (cL ‹_› _ _) λw Hz hj=>?_ |refine Ev.wd (bM ‹_› _ _ _) λw Hz hj=>?_ |refine Ev.oP ‹_› λHz hj=>?_ |refine Ev.oQ ‹_› λHz hj=>?_ |refine Ev.nX ‹_› λz=>?_ |refine Ev.br (λhq=>?_) (λhq=>?_))<;>try simp -implicitDefEqProofs only[sS,Nat.reduceAdd]))
  all_goals exact Ev.ret (.inr ⟨by simp,⟨_,by assumption,by omega⟩,.inr ⟨rfl,_,rfl⟩,_,_,_,_,_,_,_,_,_,_,_,rfl⟩)
 ·rintro e vs m1 H1 hj hm ⟨he,aK,bq,aP,cC,cz,cZ,aR,ff,aW,gl,gT,rfl⟩;rcases he with rfl|⟨rfl,u,e1⟩
  ·simp -implicitDefEqProofs only[O0,Bm,sS,Nat.reduceAdd];refine Ev.loop (k:=(dJ n).toNat) (λk vs Hx=>∃(i m2:Nat) (aK bq aP cC cz cZ ff aW gl gT:Value),J K p m2 Hx∧m2≤m1∧(i:Int)+k=dJ n∧vs=[pv p,cv a,cv t,cv n,cv x,aK,bq,aP,cv (dJ n),cC,cz,cZ,cv i,ff,aW,gl,gT])
    (λr=>(∃m2,J K p m2 r.2.2∧m2≤m1)∧(r.1= .exit 2∨(r.1= .ret∧∃u,r.2.1[5]? =some (.bool u)))∧∃(aK bq aP cC cz cZ aR ff aW gl gT:Value),r.2.1=[pv p,cv a,cv t,cv n,cv x,aK,bq,aP,cv (dJ n),cC,cz,cZ,aR,ff,aW,gl,gT]) ⟨0,m1,_,_,_,_,_,_,_,_,_,_,hj,Nat.le_refl _,by have:=vG n;omega,rfl⟩ ?_ ?_
   ·rintro k vs Hx ⟨i,m2,aK,bq,aP,cC,cz,cZ,ff,aW,gl,gT,jJ,GI,hik,rfl⟩;have hdn:=vG n;have hw:IntKind.i64.wrap ((i:Int)+1)=((i+1:Nat):Int):=by rw[jE (by omega)];omega
    have mf: ∀{m2:Nat} {H2:ae} (aK bq aP cC cz cZ ff aW gl gT:Value),J K p m2 H2→m2≤m1→(i:Int)<dJ n→Ev (λk=>yK (run G k) k [pv p,cv a,cv t,cv n,cv x,aK,bq,aP,cv (dJ n),cC,cz,cZ,cv i,ff,aW,gl,gT] H2) λr=>(r.1= .normal∧∃k',k'<k∧∃(i m2:Nat) (aK bq aP cC cz cZ ff aW gl gT:Value),J K p m2 r.2.2∧m2≤m1∧(i:Int)+k'=dJ n∧r.2.1=[pv p,cv a,cv t,cv n,cv x,aK,bq,aP,cv (dJ n),cC,cz,cZ,cv i,ff,aW,gl,gT])∨(r.1≠ .normal∧(∃m2,J K p m2 r.2.2∧m2≤m1)∧(r.1= .exit 2∨(r.1= .ret∧∃u,r.2.1[5]? =some (.bool u)))∧∃(aK bq aP cC cz cZ aR ff aW gl gT:Value),r.2.1=[pv p,cv a,cv t,cv n,cv x,aK,bq,aP,cv (dJ n),cC,cz,cZ,aR,ff,aW,gl,gT]):=by
     intro m2 H2 aK bq aP cC cz cZ ff aW gl gT hj hm hi;simp -implicitDefEqProofs only[OX,Bj,hw,sS,Nat.reduceAdd];exact Ev.ret (.inl ⟨rfl,k-1,by omega,i+1,m2,_,_,_,_,_,_,_,_,_,_,hj,hm,by omega,rfl⟩)
    simp -implicitDefEqProofs only[OY,Bk,sS,Nat.reduceAdd];repeat' (first| (with_reducible exact mf _ _ _ _ _ _ _ _ _ _ ‹_› (by omega) (by omega))| (with_reducible exact Ev.ret (.inr ⟨by simp,⟨_,by assumption,by omega⟩,.inl rfl,_,_,_,_,_,_,_,_,_,_,_,rfl⟩))| ((with_reducible first|refine Ev.lss (λhq=>?_) (λhq=>?_)|refine Ev.gtr (λhq=>?_) (λhq=>?_)|refine Ev.leq (λhq=>?_) (λhq=>?_)|refine Ev.geq (λhq=>?_) (λhq=>?_)|refine Ev.eql (λhq=>?_) (λhq=>?_)|refine Ev.neq (λhq=>?_) (λhq=>?_)|refine Ev.off ‹_› (λhq=>?_) (λhq=>?_)|refine Ev.aG (dx _) λz=>?_ |refine Ev.aG (iA _) λz=>?_ |refine Ev.aG (cS _ _) λz=>?_ |refine Ev.aG (bX _ _ _) λz=>?_ |refine Ev.aG (iJ _ _) λz=>?_ |refine Ev.aG (df _) λz=>?_ |refine Ev.aG (dk _ _ _ _) λz=>?_ |refine Ev.num (cQ ‹_› _) λz Hz mz hj hm=>?_ |refine Ev.num (fw ‹_› _ _) λz Hz mz hj hm=>?_ |refine Ev.num (fj ‹_› _) λz Hz mz hj hm=>?_ |refine Ev.num (fZ ‹_› _) λz Hz mz hj hm=>?_ |refine Ev.num (eV ‹_› _ _) λz Hz mz hj hm=>?_ |refine Ev.num (gP ‹_› _ _ _ _) λz Hz mz hj hm=>?_ |refine Ev.bool (fx ‹_› _ _ _) λz Hz mz hj hm=>?_ |refine Ev.un (cO ‹_› _ _) λz Hz mz hj hm=>?_ |refine Ev.un (fY ‹_› _) λz Hz mz hj hm=>?_ |refine Ev.dB (dj ‹_›) λz zb Hz mz hj hm=>?_ |refine Ev.dB (gO ‹_› _) λz zb Hz mz hj hm=>?_ |refine Ev.kc (dp ‹_› _ _) λz zb Hz mz hj hm=>?_ |refine Ev.num (iK _ ‹_› _) λz Hz mz hj hm=>?_ |refine Ev.dB (vH ‹_› (by omega) _ _) λz zb Hz mz hj hm=>?_ |refine Ev.bool (rC ‹_› (by omega) _ _ _ _ _) λz Hz mz hj hm=>?_ |refine Ev.bool (pM ‹_› (by omega) _ _ _ _) λz Hz mz hj hm=>?_ |refine Ev.wd (cP ‹_› _ _ _ _) λw Hz hj=>?_ |refine Ev.wd (cu ‹_›) λw Hz hj=>?_ |refine Ev.wd (cL ‹_› _ _) λw Hz hj=>?_ |refine Ev.wd (bM ‹_› _ _ _) λw Hz hj=>?_ |refine Ev.oP ‹_› λHz hj=>?_ |refine Ev.oQ ‹_› λHz hj=>?_ |refine Ev.nX ‹_› λz=>?_ |refine Ev.br (λhq=>?_) (λhq=>?_))<;>try simp -implicitDefEqProofs only[sS,Nat.reduceAdd]))
    all_goals exact Ev.ret (.inr ⟨by simp,⟨_,by assumption,by omega⟩,.inr ⟨rfl,_,rfl⟩,_,_,_,_,_,_,_,_,_,_,_,rfl⟩)
   ·rintro e vs H2 ⟨⟨m2,jJ,GI⟩,he,aK,bq,aP,cC,cz,cZ,aR,ff,aW,gl,gT,rfl⟩;rcases he with he|⟨he,u,e1⟩
    ·simp only at he;subst he;simp -implicitDefEqProofs only[OZ,Bl,sS,Nat.reduceAdd];exact Ev.ret ⟨_,rfl,_,jJ,by omega⟩
    ·simp only at he;subst he;simp only[List.getElem?_cons_succ,List.getElem?_cons_zero,Option.some.injEq] at e1;subst e1;show Ev (λ_=>some (Value.bool u,H2)) _
     exact Ev.ret ⟨_,rfl,_,jJ,by omega⟩
  ·simp only[List.getElem?_cons_succ,List.getElem?_cons_zero,Option.some.injEq] at e1;subst e1;show Ev (λ_=>some (Value.bool u,H1)) _
   exact Ev.ret ⟨_,rfl,_,hj,by omega⟩
theorem sd (h:J K p m H)(hM:m≤2147483648)(a:Int):bN (run G) 141 [pv p,cv a] H (Xt K p (m-1)):=by
 refine Ev.up (t:=λk=>aaE (run G k) k (pv p) (cv a) H) ?_ λk=>VO ..
 simp -implicitDefEqProofs only[aaE,sS,Nat.reduceAdd];have J0: ∀{m1:Nat} {H1:ae} (n w tt:Int) (x4 cD cC x9 dK x8 fI aK aU:Value),J K p m1 H1→m1≤m-1→Ev (λk=>yG (run G k) k [pv p,cv a,x4,cv tt,cD,cv w,cC,cv n,x9,dK,x8,fI,aK,aU] H1) λr=>Xt K p (m-1) r.1 r.2:=by
  intro m1 H1 n w tt x4 cD cC x9 dK x8 fI aK aU hj hm;simp -implicitDefEqProofs only[OD,AK,sS,Nat.reduceAdd];repeat' (first| (with_reducible exact Ev.ret ⟨_,rfl,_,by assumption,by omega⟩)| ((with_reducible first|refine Ev.lss (λhq=>?_) (λhq=>?_)|refine Ev.gtr (λhq=>?_) (λhq=>?_)|refine Ev.leq (λhq=>?_) (λhq=>?_)|refine Ev.geq (λhq=>?_) (λhq=>?_)|refine Ev.eql (λhq=>?_) (λhq=>?_)|refine Ev.neq (λhq=>?_) (λhq=>?_)|refine Ev.off ‹_› (λhq=>?_) (λhq=>?_)|refine Ev.aG (dx _) λz=>?_ |refine Ev.aG (iA _) λz=>?_ |refine Ev.aG (cS _ _) λz=>?_ |refine Ev.aG (bX _ _ _) λz=>?_ |refine Ev.aG (iJ _ _) λz=>?_ |refine Ev.aG (df _) λz=>?_ |refine Ev.aG (dk _ _ _ _) λz=>?_ |refine Ev.num (cQ ‹_› _) λz Hz mz hj hm=>?_ |refine Ev.num (fw ‹_› _ _) λz Hz mz hj hm=>?_ |refine Ev.num (fj ‹_› _) λz Hz mz hj hm=>?_ |refine Ev.num (fZ ‹_› _) λz Hz mz hj hm=>?_ |refine Ev.num (eV ‹_› _ _) λz Hz mz hj hm=>?_ |refine Ev.num (gP ‹_› _ _ _ _) λz Hz mz hj hm=>?_ |refine Ev.bool (fx ‹_› _ _ _) λz Hz mz hj hm=>?_ |refine Ev.un (cO ‹_› _ _) λz Hz mz hj hm=>?_ |refine Ev.un (fY ‹_› _) λz Hz mz hj hm=>?_ |refine Ev.dB (dj ‹_›) λz zb Hz mz hj hm=>?_ |refine Ev.dB (gO ‹_› _) λz zb Hz mz hj hm=>?_ |refine Ev.kc (dp ‹_› _ _) λz zb Hz mz hj hm=>?_ |refine Ev.num (iK _ ‹_› _) λz Hz mz hj hm=>?_ |refine Ev.dB (vH ‹_› (by omega) _ _) λz zb Hz mz hj hm=>?_ |refine Ev.bool (rC ‹_› (by omega) _ _ _ _ _) λz Hz mz hj hm=>?_ |refine Ev.bool (pM ‹_› (by omega) _ _ _ _) λz Hz mz hj hm=>?_ |refine Ev.bool (sd ‹_› (by omega) _) λz Hz mz hj hm=>?_ |refine Ev.wd (cP ‹_› _ _ _ _) λw Hz hj=>?_ |refine Ev.wd (cu ‹_›) λw Hz hj=>?_ |refine Ev.wd (cL ‹_› _ _) λw Hz hj=>?_ |refine Ev.wd (bM ‹_› _ _ _) λw Hz hj=>?_ |refine Ev.oP ‹_› λHz hj=>?_ |refine Ev.oQ ‹_› λHz hj=>?_ |refine Ev.nX ‹_› λz=>?_ |refine Ev.br (λhq=>?_) (λhq=>?_))<;>try simp -implicitDefEqProofs only[sS,Nat.reduceAdd]))
 repeat' (first| (with_reducible exact Ev.ret ⟨_,rfl,_,by assumption,by omega⟩)| (with_reducible exact J0 _ _ _ _ _ _ _ _ _ _ _ _ ‹_› (by omega))| ((with_reducible first|refine Ev.lss (λhq=>?_) (λhq=>?_)|refine Ev.gtr (λhq=>?_) (λhq=>?_)|refine Ev.leq (λhq=>?_) (λhq=>?_)|refine Ev.geq (λhq=>?_) (λhq=>?_)|refine Ev.eql (λhq=>?_) (λhq=>?_)|refine Ev.neq (λhq=>?_) (λhq=>?_)|refine Ev.off ‹_› (λhq=>?_) (λhq=>?_)|refine Ev.aG (dx _) λz=>?_ |refine Ev.aG (iA _) λz=>?_ |refine Ev.aG (cS _ _) λz=>?_ |refine Ev.aG (bX _ _ _) λz=>?_ |refine Ev.aG (iJ _ _) λz=>?_ |refine Ev.aG (df _) λz=>?_ |refine Ev.aG (dk _ _ _ _) λz=>?_ |refine Ev.num (cQ ‹_› _) λz Hz mz hj hm=>?_ |refine Ev.num (fw ‹_› _ _) λz Hz mz hj hm=>?_ |refine Ev.num (fj ‹_› _) λz Hz mz hj hm=>?_ |refine Ev.num (fZ ‹_› _) λz Hz mz hj hm=>?_ |refine Ev.num (eV ‹_› _ _) λz Hz mz hj hm=>?_ |refine Ev.num (gP ‹_› _ _ _ _) λz Hz mz hj hm=>?_ |refine Ev.bool (fx ‹_› _ _ _) λz Hz mz hj hm=>?_ |refine Ev.un (cO ‹_› _ _) λz Hz mz hj hm=>?_ |refine Ev.un (fY ‹_› _) λz Hz mz hj hm=>?_ |refine Ev.dB (dj ‹_›) λz zb Hz mz hj hm=>?_ |refine Ev.dB (gO ‹_› _) λz zb Hz mz hj hm=>?_ |refine Ev.kc (dp ‹_› _ _) λz zb Hz mz hj hm=>?_ |refine Ev.num (iK _ ‹_› _) λz Hz mz hj hm=>?_ |refine Ev.dB (vH ‹_› (by omega) _ _) λz zb Hz mz hj hm=>?_ |refine Ev.bool (rC ‹_› (by omega) _ _ _ _ _) λz Hz mz hj hm=>?_ |refine Ev.bool (pM ‹_› (by omega) _ _ _ _) λz Hz mz hj hm=>?_ |refine Ev.bool (sd ‹_› (by omega) _) λz Hz mz hj hm=>?_ |refine Ev.wd (cP ‹_› _ _ _ _) λw Hz hj=>?_ |refine Ev.wd (cu ‹_›) λw Hz hj=>?_ |refine Ev.wd (cL ‹_› _ _) λw Hz hj=>?_ |refine Ev.wd (bM ‹_› _ _ _) λw Hz hj=>?_ |refine Ev.oP ‹_› λHz hj=>?_ |refine Ev.oQ ‹_› λHz hj=>?_ |refine Ev.nX ‹_› λz=>?_ |refine Ev.br (λhq=>?_) (λhq=>?_))<;>try simp -implicitDefEqProofs only[sS,Nat.reduceAdd]))
theorem afh (a b c:Int)(H:ae):cB 138 (.agg #[cv a,cv b,cv c]) H=some (pv H.length,H.new ⟨[cv a,cv b,cv c],138,1,false⟩):=by
 simp[cB,Value.cells,aD,aO]
theorem J.box (h:J K p m H)(cs:List Value)(T:TypeId):J (λH' o=>K H' o∧H'.get H.length=some ⟨cs,T,1,false⟩∧o H.length= -9∧H.length<H'.length) p m (H.new ⟨cs,T,1,false⟩):=by
 obtain⟨hK,o,hr,hk⟩:=h;have f:Fr H o (H.new ⟨cs,T,1,false⟩) (o.up H.length (-9)) []:=(Fr.refl H o []).new _ _;refine⟨hK.and λH1 o1 H2 o2 a f=>?_,_,hr.fr f (by simp) (by simp) (by simp),hK _ _ _ _ hk (f.wk (by simp)),az,aQ,by rw[bh];omega⟩
 obtain⟨a1,a2,a3⟩:=a;exact⟨by rw[f.same _ a3 (by rw[a2];simp)];exact a1,by rw[f.own _ a3];exact a2,by have:=f.size;omega⟩
theorem yW (h:J K p m H)(hM:m≤2147483648)(a b c:Int):bN (run G) 142 [pv p,.agg #[cv a,cv b,cv c]] H (Xt K p m):=by
 refine Ev.up (t:=λk=>abH (run G k) k (pv p) (.agg #[cv a,cv b,cv c]) H) ?_ λk=>Wo ..
 have hK:=h.1;have hjb:=h.box [cv a,cv b,cv c] 138;have j8: ∀{m':Nat} {H':ae},J (λH' o=>K H' o∧H'.get H.length=some ⟨[cv a,cv b,cv c],138,1,false⟩∧o H.length= -9∧H.length<H'.length) p m' H'→J K p m' H':=λhj=>hj.mono hK λo a=>a.1
 obtain⟨H1,e1⟩: ∃z,z=H.new ⟨[cv a,cv b,cv c],138,1,false⟩:=⟨_,rfl⟩;have g1:H1.get H.length=some ⟨[cv a,cv b,cv c],138,1,false⟩:=by rw[e1];exact az
 rw[←e1] at hjb;have L0:=λ{H':ae} (g:H'.get H.length=some ⟨[cv a,cv b,cv c],138,1,false⟩)=>ak H.length 0 H' g
 have L1:=λ{H':ae} (g:H'.get H.length=some ⟨[cv a,cv b,cv c],138,1,false⟩)=>ak H.length 1 H' g
 have L2:=λ{H':ae} (g:H'.get H.length=some ⟨[cv a,cv b,cv c],138,1,false⟩)=>ak H.length 2 H' g
 simp only[List.getElem?_cons_succ,List.getElem?_cons_zero] at L0 L1 L2;simp -implicitDefEqProofs only[abH,afh, ←e1,L0 g1,L1 g1,L2 g1,sS,Nat.reduceAdd];refine Ev.wd (bM hjb _ _ _) λw Hz hj=>?_
 refine Ev.dB (dj hj) λz zb Hz mz hj hm=>?_
 cases zb<;>simp -implicitDefEqProofs only[sS,Nat.reduceAdd]
 ·exact Ev.ret ⟨_,rfl,_,j8 hj,by omega⟩
 obtain⟨_,o2,_,_,g2,_⟩:=id hj;simp -implicitDefEqProofs only[L0 g2,L1 g2,L2 g2,sS,Nat.reduceAdd];refine Ev.aG (iJ _ _) λz=>?_
 refine Ev.num (gP hj _ _ _ _) λz Hz mz jJ GI=>?_
 simp -implicitDefEqProofs only[L0 g2,L1 g2,L2 g2,sS,Nat.reduceAdd];have lu:=j8 jJ;repeat' (first| (with_reducible exact Ev.ret ⟨_,rfl,_,by assumption,by omega⟩)| ((with_reducible first|refine Ev.lss (λhq=>?_) (λhq=>?_)|refine Ev.gtr (λhq=>?_) (λhq=>?_)|refine Ev.leq (λhq=>?_) (λhq=>?_)|refine Ev.geq (λhq=>?_) (λhq=>?_)|refine Ev.eql (λhq=>?_) (λhq=>?_)|refine Ev.neq (λhq=>?_) (λhq=>?_)|refine Ev.off ‹_› (λhq=>?_) (λhq=>?_)|refine Ev.aG (dx _) λz=>?_ |refine Ev.aG (iA _) λz=>?_ |refine Ev.aG (cS _ _) λz=>?_ |refine Ev.aG (bX _ _ _) λz=>?_ |refine Ev.aG (iJ _ _) λz=>?_ |refine Ev.aG (df _) λz=>?_ |refine Ev.aG (dk _ _ _ _) λz=>?_ |refine Ev.num (cQ ‹_› _) λz Hz mz hj hm=>?_ |refine Ev.num (fw ‹_› _ _) λz Hz mz hj hm=>?_ |refine Ev.num (fj ‹_› _) λz Hz mz hj hm=>?_ |refine Ev.num (fZ ‹_› _) λz Hz mz hj hm=>?_ |refine Ev.num (eV ‹_› _ _) λz Hz mz hj hm=>?_ |refine Ev.num (gP ‹_› _ _ _ _) λz Hz mz hj hm=>?_ |refine Ev.bool (fx ‹_› _ _ _) λz Hz mz hj hm=>?_ |refine Ev.un (cO ‹_› _ _) λz Hz mz hj hm=>?_ |refine Ev.un (fY ‹_› _) λz Hz mz hj hm=>?_ |refine Ev.dB (dj ‹_›) λz zb Hz mz hj hm=>?_ |refine Ev.dB (gO ‹_› _) λz zb Hz mz hj hm=>?_ |refine Ev.kc (dp ‹_› _ _) λz zb Hz mz hj hm=>?_ |refine Ev.num (iK _ ‹_› _) λz Hz mz hj hm=>?_ |refine Ev.dB (vH ‹_› (by omega) _ _) λz zb Hz mz hj hm=>?_ |refine Ev.bool (rC ‹_› (by omega) _ _ _ _ _) λz Hz mz hj hm=>?_ |refine Ev.bool (pM ‹_› (by omega) _ _ _ _) λz Hz mz hj hm=>?_ |refine Ev.bool (sd ‹_› (by omega) _) λz Hz mz hj hm=>?_ |refine Ev.bool (yW ‹_› (by omega) _ _ _) λz Hz mz hj hm=>?_ |refine Ev.wd (cP ‹_› _ _ _ _) λw Hz hj=>?_ |refine Ev.wd (cu ‹_›) λw Hz hj=>?_ |refine Ev.wd (cL ‹_› _ _) λw Hz hj=>?_ |refine Ev.wd (bM ‹_› _ _ _) λw Hz hj=>?_ |refine Ev.oP ‹_› λHz hj=>?_ |refine Ev.oQ ‹_› λHz hj=>?_ |refine Ev.nX ‹_› λz=>?_ |refine Ev.br (λhq=>?_) (λhq=>?_))<;>try simp -implicitDefEqProofs only[sS,Nat.reduceAdd]))
end
section
variable {G:ag} {H H':ae} {o o':an} {p m c:Nat} {K K':ae→an→Prop} {t q:Int} {x:Value} {l:PL} {n:Nat}
def IG (H:ae)(o:an)(q:Int)(x:Value)(n:Nat):Prop:=
 (x= .slice none 0 0∧n=0)∨∃(i cap:Nat) (cells:List Value) (ty:TypeId),x= .slice (some ⟨i,0,none⟩) n cap∧H.get i=some ⟨cells,ty,3,false⟩∧cells.length=3*cap∧n≤cap∧o i=q∧∀j,j<3*n→∃a,cells[j]? =some (cv a)
theorem IG.fr {ps:List Int}(h:IG H o q x n)(f:Fr H o H' o' ps)(hp:q ∉ ps):IG H' o' q x n:=by
 rcases h with h|⟨i,cap,cells,ty,h1,h2,h3,h4,h5,h6⟩
 ·exact .inl h
 ·exact .inr ⟨i,cap,cells,ty,h1,by rw[f.same i (aq h2) (by rw[h5];exact hp)];exact h2,h3,h4,by rw[f.own i (aq h2)];exact h5,h6⟩
theorem cW.en {ps:List Int}(h:q ∉ ps):cW ps λH o=>IG H o q x n:=λH o H' o' a f=>a.fr f h
theorem IG.len (h:IG H o q x n):cq x=some (cv n):=by
 rcases h with⟨rfl,rfl⟩|⟨i,cap,cells,ty,rfl,_⟩<;>rfl
theorem IG.idx (h:IG H o q x n){j:Nat}(hj:j<n): ∃(i off:Nat) (b:eY) (a0 a1 a2:Int),(∀H',bP 3 x (cv j) H'=some (.pointer (some ⟨i,off,none⟩),H'))∧H.get i=some b∧o i=q∧
  ∀H':ae,H'.get i=some b→au (.pointer (some ⟨i,off+2,none⟩)) H'=some (cv a2)∧bV 3 (.pointer (some ⟨i,off,none⟩)) H'=some (.agg #[cv a0,cv a1,cv a2]):=by
 rcases h with⟨rfl,rfl⟩|⟨i,cap,cells,ty,rfl,h2,h3,h4,h5,h6⟩
 ·omega
 ·obtain⟨a0,e0⟩:=h6 (3*j) (by omega)
  obtain⟨a1,e1⟩:=h6 (3*j+1) (by omega)
  obtain⟨a2,e2⟩:=h6 (3*j+2) (by omega)
  refine⟨i,3*j,_,a0,a1,a2,λH'=>?_,h2,h5,λH' g=>⟨?_,?_⟩⟩
  ·simp only[bP];rw[if_pos (by constructor<;>omega)];simp<;>omega
  ·rw[ak i _ H' g];exact e2
  ·have fN:aA H' i (3*j) 3=some [cv a0,cv a1,cv a2]:=by
    simp only[aA,g];rw[if_pos (by omega)]
    rw[List.getElem?_eq_getElem (by omega)] at e0 e1 e2
    simp only[Option.some.injEq] at e0 e1 e2;rw[List.drop_eq_getElem_cons (by omega),List.drop_eq_getElem_cons (by omega),List.drop_eq_getElem_cons (by omega),e0,e1,e2]
    rfl
   simp only[bV,fN]
theorem IG.app (T ty:TypeId)(h:IG H o q x n)(a b c:Int)(hb:n+1≤4294967296):
  ∃x' H2 o2,cd T 3 24 x (.slice (some ⟨H.length,0,none⟩) 1 1) (H.new ⟨[cv a,cv b,cv c],ty,3,false⟩)=some (x',H2)∧IG H2 o2 q x' (n+1)∧Fr H o H2 o2 [q]:=by
 obtain⟨H1,e1⟩: ∃z,z=H.new ⟨[cv a,cv b,cv c],ty,3,false⟩:=⟨_,rfl⟩;have l1:H1.length=H.length+1:=by rw[e1,bh]
 have g1:H1.get H.length=some ⟨[cv a,cv b,cv c],ty,3,false⟩:=by rw[e1];exact az
 have f1:Fr H o H1 (o.up H.length (-9)) [q]:=by rw[e1];exact(Fr.refl H o [q]).new _ _
 have yg:bp H1 3 1 (.slice (some ⟨H.length,0,none⟩) 1 1)=some [cv a,cv b,cv c]:=by simp[bp,aA,g1]
 rw[←e1];rcases h with⟨rfl,rfl⟩|⟨i,cap,cells,EU,rfl,h2,h3,h4,h5,h6⟩
 ·refine⟨.slice (some ⟨H1.length,0,none⟩) 1 1,H1.new ⟨[cv a,cv b,cv c],T,3,false⟩,(o.up H.length (-9)).up H1.length q,?_,.inr ⟨H1.length,1,_,T,rfl,az,by simp,by omega,aQ,λj hj=>?_⟩,f1.new _ _⟩
  ·simp[cd,yg]
  ·rcases j with _|_|_|j
   ·exact⟨a,rfl⟩
   ·exact⟨b,rfl⟩
   ·exact⟨c,rfl⟩
   ·omega
 ·have JI:=aq h2;have g2:H1.get i=some ⟨cells,EU,3,false⟩:=by rw[e1,cr JI];exact h2
  by_cases iN:n+1≤cap
  ·obtain⟨c2,ec2⟩: ∃c2,c2=bO cells (n*3) [cv a,cv b,cv c]:=⟨_,rfl⟩;have hc2:c2.length=cells.length∧∀j,j<3*(n+1)→∃a,c2[j]? =some (cv a):=by
    subst ec2;simp only[bO];refine⟨by simp,λj hj=>?_⟩
    rw[List.getElem?_set,List.getElem?_set,List.getElem?_set];simp only[List.length_set];by_cases j2:n*3+1+1=j
    ·rw[if_pos j2,if_pos (by omega)];exact⟨c,rfl⟩
    ·rw[if_neg j2];by_cases j1:n*3+1=j
     ·rw[if_pos j1,if_pos (by omega)];exact⟨b,rfl⟩
     ·rw[if_neg j1];by_cases j0:n*3=j
      ·rw[if_pos j0,if_pos (by omega)];exact⟨a,rfl⟩
      ·rw[if_neg j0];exact h6 j (by omega)
   refine⟨.slice (some ⟨i,0,none⟩) (n+1) cap,H1.put i ⟨c2,EU,3,false⟩,o.up H.length (-9),?_,.inr ⟨i,cap,c2,EU,rfl,aH g2,by omega,iN,by rw[dc (by omega)];exact h5,hc2.2⟩,f1.put λ_=>by simp[h5]⟩
   simp only[cd,yg,Option.map_some];rw[if_pos iN,if_neg (by omega)]
   simp only[g2,if_true,bG];rw[if_pos (by simp[aD];omega)]
   simp only[Option.map_some,Nat.zero_add,ec2]
  ·refine⟨.slice (some ⟨H1.length,0,none⟩) (n+1) (n+1),(H1.kill i).new ⟨cells.take (n*3)++[cv a,cv b,cv c],T,3,false⟩,(o.up H.length (-9)).up H1.length q,?_,.inr ⟨H1.length,n+1,cells.take (n*3)++[cv a,cv b,cv c],T,rfl,?_,by simp;omega,by omega,aQ,λj hj=>?_⟩,?_⟩
   ·simp only[cd,yg,Option.map_some];rw[if_neg iN,if_pos (by simp;omega)]
    simp only[g2];rw[if_pos (by simp;omega)]
    have e:aA H1 i 0 (n*3)=some (cells.take (n*3)):=by
     simp only[aA,g2];rw[if_pos (by omega)];rfl
    simp only[e]
   ·have:=az (H:=H1.kill i) (c:=⟨cells.take (n*3)++[cv a,cv b,cv c],T,3,false⟩)
    rw[dt] at this;exact this
   ·rcases Nat.lt_or_ge j (n*3) with g|g
    ·rw[List.getElem?_append_left (by simp;omega),List.getElem?_take,if_pos g]
     exact h6 j (by omega)
    ·rw[List.getElem?_append_right (by simp;omega)]
     have:(cells.take (n*3)).length=n*3:=by simp;omega
     rw[this];obtain⟨d,rfl⟩: ∃d,j=n*3+d:=⟨j-n*3,by omega⟩
     rw[Nat.add_sub_cancel_left];rcases d with _|_|_|d
     ·exact⟨a,rfl⟩
     ·exact⟨b,rfl⟩
     ·exact⟨c,rfl⟩
     ·omega
   ·have f2:=(f1.kill (i:=i) (λ_=>by simp[h5])).new ⟨cells.take (n*3)++[cv a,cv b,cv c],T,3,false⟩ q
    rw[dt] at f2;exact f2
theorem Xy (h:J K p m H)(hM:m≤2147483648)(hx: ∀H o,K H o→IG H o q x n)(hn:n≤2147483648):bN (run G) 143 [pv p,x] H (Un K p m):=by
 refine Ev.up (t:=λk=>ack (run G k) k (pv p) x H) ?_ λk=>WO ..
 simp -implicitDefEqProofs only[ack,sS,Nat.reduceAdd];have hen: ∀{m':Nat} {H':ae},J K p m' H'→∃o,IG H' o q x n:=λhj=>by obtain⟨_,o,_,hk⟩:=hj;exact⟨o,hx _ _ hk⟩
 refine Ev.loop (k:=n) (λk vs Hx=>∃(i m2:Nat) (f:Int) (bK x6 x7 x8 eR fl:Value),J K p m2 Hx∧m2≤m∧i+k=n∧f<n∧vs=[pv p,x,cv i,bK,x6,cv f,x7,x8,eR,fl])
  (λr=>(∃m2,J K p m2 r.2.2∧m2≤m)∧r.1= .exit 0∧∃(f:Int) (x5 bK x6 x7 x8 eR fl:Value),f<n∧r.2.1=[pv p,x,x5,bK,x6,cv f,x7,x8,eR,fl]) ⟨0,m, -1,_,_,_,_,_,_,h,Nat.le_refl _,by omega,by omega,rfl⟩ ?_ ?_
 ·rintro k vs Hx ⟨i,m2,f,bK,x6,x7,x8,eR,fl,hj,hm,hik,hf,rfl⟩;obtain⟨o1,he⟩:=hen hj;have hw:IntKind.i64.wrap ((i:Int)+1)=((i+1:Nat):Int):=by rw[jE (by omega)];omega
  have mf: ∀{m2:Nat} {H2:ae} (f:Int) (bK x6 x7 x8 eR fl:Value),J K p m2 H2→m2≤m→f<n→i<n→Ev (λk=>yR (run G k) k [pv p,x,cv i,bK,x6,cv f,x7,x8,eR,fl] H2) λr=>(r.1= .normal∧∃k',k'<k∧∃(i m2:Nat) (f:Int) (bK x6 x7 x8 eR fl:Value),J K p m2 r.2.2∧m2≤m∧i+k'=n∧f<n∧r.2.1=[pv p,x,cv i,bK,x6,cv f,x7,x8,eR,fl])∨(r.1≠ .normal∧(∃m2,J K p m2 r.2.2∧m2≤m)∧r.1= .exit 0∧∃(f:Int) (x5 bK x6 x7 x8 eR fl:Value),f<n∧r.2.1=[pv p,x,x5,bK,x6,cv f,x7,x8,eR,fl]):=by
   intro m2 H2 f bK x6 x7 x8 eR fl hj hm hf hi;simp -implicitDefEqProofs only[Pn,BL,hw,sS,Nat.reduceAdd];exact Ev.ret (.inl ⟨rfl,k-1,by omega,i+1,m2,f,_,_,_,_,_,_,hj,hm,by omega,hf,rfl⟩)
  simp -implicitDefEqProofs only[Po,BM,he.len,sS,Nat.reduceAdd];refine Ev.lss (λhq=>?_) (λhq=>?_)<;>try simp -implicitDefEqProofs only[sS,Nat.reduceAdd]
  ·obtain⟨ib,off,b,a0,a1,a2,e1,e2,e3,e4⟩:=he.idx (j:=i) (by omega)
   obtain⟨e5,e6⟩:=e4 _ e2;refine Ev.off hj (λhq=>?_) (λhq=>?_)<;>try simp -implicitDefEqProofs only[e1,ax,e5,sS,Nat.reduceAdd]
   ·exact Ev.ret (.inr ⟨by simp,⟨_,hj,hm⟩,rfl,_,_,_,_,_,_,_,_,hf,rfl⟩)
   ·repeat' (first| (with_reducible exact mf _ _ _ _ _ _ _ ‹_› (by omega) (by omega) (by omega))| ((with_reducible first|refine Ev.lss (λhq=>?_) (λhq=>?_)|refine Ev.gtr (λhq=>?_) (λhq=>?_)|refine Ev.leq (λhq=>?_) (λhq=>?_)|refine Ev.geq (λhq=>?_) (λhq=>?_)|refine Ev.eql (λhq=>?_) (λhq=>?_)|refine Ev.neq (λhq=>?_) (λhq=>?_)|refine Ev.off ‹_› (λhq=>?_) (λhq=>?_)|refine Ev.aG (dx _) λz=>?_ |refine Ev.aG (iA _) λz=>?_ |refine Ev.aG (cS _ _) λz=>?_ |refine Ev.aG (bX _ _ _) λz=>?_ |refine Ev.aG (iJ _ _) λz=>?_ |refine Ev.aG (df _) λz=>?_ |refine Ev.aG (dk _ _ _ _) λz=>?_ |refine Ev.num (cQ ‹_› _) λz Hz mz hj hm=>?_ |refine Ev.num (fw ‹_› _ _) λz Hz mz hj hm=>?_ |refine Ev.num (fj ‹_› _) λz Hz mz hj hm=>?_ |refine Ev.num (fZ ‹_› _) λz Hz mz hj hm=>?_ |refine Ev.num (eV ‹_› _ _) λz Hz mz hj hm=>?_ |refine Ev.num (gP ‹_› _ _ _ _) λz Hz mz hj hm=>?_ |refine Ev.bool (fx ‹_› _ _ _) λz Hz mz hj hm=>?_ |refine Ev.un (cO ‹_› _ _) λz Hz mz hj hm=>?_ |refine Ev.un (fY ‹_› _) λz Hz mz hj hm=>?_ |refine Ev.dB (dj ‹_›) λz zb Hz mz hj hm=>?_ |refine Ev.dB (gO ‹_› _) λz zb Hz mz hj hm=>?_ |refine Ev.kc (dp ‹_› _ _) λz zb Hz mz hj hm=>?_ |refine Ev.num (iK _ ‹_› _) λz Hz mz hj hm=>?_ |refine Ev.dB (vH ‹_› (by omega) _ _) λz zb Hz mz hj hm=>?_ |refine Ev.bool (rC ‹_› (by omega) _ _ _ _ _) λz Hz mz hj hm=>?_ |refine Ev.bool (pM ‹_› (by omega) _ _ _ _) λz Hz mz hj hm=>?_ |refine Ev.bool (sd ‹_› (by omega) _) λz Hz mz hj hm=>?_ |refine Ev.bool (yW ‹_› (by omega) _ _ _) λz Hz mz hj hm=>?_ |refine Ev.wd (cP ‹_› _ _ _ _) λw Hz hj=>?_ |refine Ev.wd (cu ‹_›) λw Hz hj=>?_ |refine Ev.wd (cL ‹_› _ _) λw Hz hj=>?_ |refine Ev.wd (bM ‹_› _ _ _) λw Hz hj=>?_ |refine Ev.oP ‹_› λHz hj=>?_ |refine Ev.oQ ‹_› λHz hj=>?_ |refine Ev.nX ‹_› λz=>?_ |refine Ev.br (λhq=>?_) (λhq=>?_))<;>try simp -implicitDefEqProofs only[sS,Nat.reduceAdd]))
  ·exact Ev.ret (.inr ⟨by simp,⟨_,hj,hm⟩,rfl,_,_,_,_,_,_,_,_,hf,rfl⟩)
 ·rintro e vs Hx ⟨⟨m2,hj,hm⟩,he,f,x5,bK,x6,x7,x8,eR,fl,hf,rfl⟩;simp only at he;subst he;simp -implicitDefEqProofs only[Pp,BN,sS,Nat.reduceAdd];refine Ev.geq (λhq=>?_) (λhq=>?_)<;>try simp -implicitDefEqProofs only[sS,Nat.reduceAdd]
  ·refine Ev.off hj (λhq=>?_) (λhq=>?_)<;>try simp -implicitDefEqProofs only[sS,Nat.reduceAdd]
   ·exact Ev.ret ⟨_,hj,hm⟩
   ·obtain⟨fn,rfl⟩: ∃fn:Nat,f=fn:=⟨f.toNat,by omega⟩
    obtain⟨o1,he⟩:=hen hj;obtain⟨ib,off,b,a0,a1,a2,e1,e2,e3,e4⟩:=he.idx (j:=fn) (by omega)
    obtain⟨e5,e6⟩:=e4 _ e2;simp -implicitDefEqProofs only[e1,e6,sS,Nat.reduceAdd];refine Ev.bool (yW hj (by omega) _ _ _) λz Hz mz hj hm=>?_
    try simp -implicitDefEqProofs only[sS,Nat.reduceAdd]
    exact Ev.ret ⟨_,hj,by omega⟩
  ·exact Ev.ret ⟨_,hj,hm⟩
end
end Go.Proofs.YtjgmnoaalbbonaaGreat.Fun
end
