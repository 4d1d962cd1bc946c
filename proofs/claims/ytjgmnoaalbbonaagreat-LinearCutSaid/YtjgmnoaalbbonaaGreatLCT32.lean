/- Texts of the proof of linearCut_holds, put together by a small program of ours (names shortened, spaces taken out). No condition beyond the given statement. -/
import Derived.Test.YtjgmnoaalbbonaaGreatLCT17
import Derived.Test.YtjgmnoaalbbonaaGreatLCT20
import Derived.Test.YtjgmnoaalbbonaaGreatLCT21
import Derived.Test.YtjgmnoaalbbonaaGreatLCT31
import Derived.Test.YtjgmnoaalbbonaaGreatLCT22
import Derived.Test.YtjgmnoaalbbonaaGreatLCT25
set_option linter.unusedVariables false
set_option linter.unusedSimpArgs false
set_option linter.unnecessarySimpa false
noncomputable section
section
namespace Go.Proofs.YtjgmnoaalbbonaaGreat.Fun
open Go Go.RowKit Go.Proofs.YtjgmnoaalbbonaaGreatA.Am
set_option maxRecDepth 10000
section
variable {G:ae} {H H':aa} {o o':aj} {p m c:Nat} {K:aa→aj→Prop} {t:Int} {x:Value} {l:PL}
theorem wq (n:Nat):bR [cv 0] n=(List.replicate n (0:Int)).map cv:=by
 simp[bR,List.flatten_replicate_singleton]
theorem J.DR (h:J K p m H)(f: ∀o,∃o',Fr H o H' o' []):J K p m H':=by
 obtain⟨hK,o,hr,hk⟩:=h;obtain⟨o',f⟩:=f o;exact⟨hK,o',hr.fr f (by simp) (by simp) (by simp),hK _ _ _ _ hk (f.wk (by simp))⟩
theorem ac8 (h:J K p m H){d:Int}(h1:1≤d∧d≤128){T:TypeId}: ∃s1 s2 H1 H2 l1 l2,UR T 1 8 [cv 0] (cv (d-1)) (cv (d-1)) (H.dr 1)=some (s1,H1)∧Et H.length (msB T 1 8 [cv 0] (cv d) (cv d)) H1=some (s2,H2)∧J K p m H2∧iz H2 s1 l1∧iz H2 s2 l2∧l1.length+l2.length≤1000:=by
 obtain⟨e,he⟩: ∃e:Nat,d=e+1:=⟨(d-1).toNat,by omega⟩
 subst he;have e1:(e:Int)+1-1=e:=by omega
 have e2:((e:Int)+1).toNat=e+1:=by omega
 have hb:msB T 1 8 [cv 0] (cv ((e:Int)+1)) (cv ((e:Int)+1))=some (λi=>.slice (some ⟨i,0,none⟩) (e+1) (e+1),⟨bR [cv 0] (e+1),T,1,false⟩):=by
  unfold msB UR;simp only[e2];rw[if_pos (by omega)];rfl
 have hlen:(H.dr 1).length=H.length+1:=uo 1;have hole:((H.dr 1).new ⟨bR [cv 0] e,T,1,false⟩)[H.length]? =some .hole:=by
  unfold aa.new;rw[List.getElem?_append_left (by omega)];exact um
 refine⟨.slice (some ⟨H.length+1,0,none⟩) e e,.slice (some ⟨H.length,0,none⟩) (e+1) (e+1),(H.dr 1).new ⟨bR [cv 0] e,T,1,false⟩,((H.dr 1).new ⟨bR [cv 0] e,T,1,false⟩).set H.length (.jD ⟨bR [cv 0] (e+1),T,1,false⟩),List.replicate e 0,List.replicate (e+1) 0,?_,?_,?_,?_,?_,?_⟩
 ·unfold UR;simp only[e1,hlen,Int.toNat_natCast];rw[if_pos (by omega)]
 ·rw[hb];exact Ci hole
 ·refine h.DR λo=>⟨(o.up H.length (-9)).up (H.length+1) (-9),?_⟩
  refine⟨λi hi _=>?_,λi hi=>?_,?_⟩
  ·rw[iy (by omega)]
   unfold aa.new;rw[List.getElem?_append_left (by omega),xx hi]
  ·rw[cZ (by omega),cZ (by omega)]
  ·simp only[List.length_set,aW,hlen];omega
 ·refine .inr ⟨H.length+1,0,e,by simp,λ_=>⟨⟨bR [cv 0] e,T,1,false⟩,?_,rfl,?_,?_⟩⟩
  ·have g:=ay (H:=H.dr 1) (c:=⟨bR [cv 0] e,T,1,false⟩);rw[hlen] at g;rw[cP (iy (by omega))];exact g
  ·simp[wq]
  ·simp[wq]
 ·refine .inr ⟨H.length,0,e+1,by simp,λ_=>⟨⟨bR [cv 0] (e+1),T,1,false⟩,?_,rfl,?_,?_⟩⟩
  ·exact nL (by rw[aW,hlen];omega)
  ·simp[wq]
  ·simp[wq]
 ·simp;have:(e:Int)+1≤128:=h1.2;omega
theorem J.sl (h:J (λH o=>K H o∧gE H o t x l) p m H)(hK:cI [(p:Int)] K):J K p m H:=h.mono hK λo a=>a.1
theorem tM (h:J K p m H)(hM:m≤2147483648)(a n:Int):bA (run G) 155 [pv p,cv a,cv n] H (Fl K p m):=by
 refine Ev.up (t:=λk=>Xt (run G k) k (pv p) (cv a) (cv n) H) ?_ λk=>R6 ..
 simp -implicitDefEqProofs only[Xt,sS,Nat.reduceAdd];have hK:=h.1;have J0: ∀{y:Value} {l:PL} {t:Int} {m1:Nat} {H1:aa} (x6 x7 aJ x8 x9 aG cM cS:Value),t≠(p:Int)→J (λH o=>K H o∧gE H o t y l) p m1 H1→m1≤m→l.length≤2147483648→Ev (λk=>wg (run G k) k [pv p,cv a,cv n,x6,x7,aJ,x8,x9,aG,cM,cS,y] H1) λr=>Fl K p m r.1 r.2:=by
  intro y l t m1 H1 x6 x7 aJ x8 x9 aG cM cS ht hj hm hl;simp -implicitDefEqProofs only[K9,yY,sS,Nat.reduceAdd];have DV:=hj.sl hK;refine Ev.off hj (λhq=>?_) (λhq=>?_)<;>try simp -implicitDefEqProofs only[sS,Nat.reduceAdd]
  ·exact Ev.ret ⟨_,_,rfl,_,DV,by omega⟩
  ·refine Ev.dq (Py _ rfl hl hj ht λH o a=>a.2) λz zb Hz mz Qg hm=>?_
   have DH:=Qg.sl hK
   try simp -implicitDefEqProofs only[sS,Nat.reduceAdd]
   exact Ev.ret ⟨_,_,rfl,_,DH,by omega⟩
 refine Ev.geq (λhq=>?_) (λhq=>?_)<;>try simp -implicitDefEqProofs only[sS,Nat.reduceAdd]
 ·refine Ev.call (pQ _) ?_;rintro v TF ⟨rfl,rfl⟩;have hd:=tL n;have hx:1≤(if(1:Int)>du n then 1 else du n)∧(if(1:Int)>du n then 1 else du n)≤128:=by split<;>omega
  simp -implicitDefEqProofs only[T3,sS,Nat.reduceAdd];obtain⟨d,hd2⟩: ∃d,d=(if(1:Int)>du n then 1 else du n):=⟨_,rfl⟩
  rw[←hd2] at hx ⊢;obtain⟨s1,s2,H2,H3,l1,l2,g1,g2,g3,g4,g5,g6⟩:=ac8 h hx (T:=2);have hw:IntKind.i64.wrap (d-1)=d-1:=kr (by omega)
  simp -implicitDefEqProofs only[hw,g1,Nat.add_zero,g2,sS,Nat.reduceAdd];refine Ev.wd (n5 g3 _ g4 g5 (by omega)) λw Hz hjw=>?_
  repeat' (first|exact Ev.ret ⟨_,_,rfl,_,by assumption,by omega⟩| ((with_reducible first|refine Ev.lss (λhq=>?_) (λhq=>?_)|refine Ev.gtr (λhq=>?_) (λhq=>?_)|refine Ev.leq (λhq=>?_) (λhq=>?_)|refine Ev.geq (λhq=>?_) (λhq=>?_)|refine Ev.eql (λhq=>?_) (λhq=>?_)|refine Ev.neq (λhq=>?_) (λhq=>?_)|refine Ev.off ‹_› (λhq=>?_) (λhq=>?_)|refine Ev.az (dj _) λz=>?_ |refine Ev.az (gT _) λz=>?_ |refine Ev.az (cG _ _) λz=>?_ |refine Ev.az (bH _ _ _) λz=>?_ |refine Ev.az (hX _ _) λz=>?_ |refine Ev.az (cX _) λz=>?_ |refine Ev.az (de _ _ _ _) λz=>?_ |refine Ev.num (cE ‹_› _) λz Hz mz hj hm=>?_ |refine Ev.num (eM ‹_› _ _) λz Hz mz hj hm=>?_ |refine Ev.num (eI ‹_› _) λz Hz mz hj hm=>?_ |refine Ev.num (fl ‹_› _) λz Hz mz hj hm=>?_ |refine Ev.num (ea ‹_› _ _) λz Hz mz hj hm=>?_ |refine Ev.num (fX ‹_› _ _ _ _) λz Hz mz hj hm=>?_ |refine Ev.bool (eN ‹_› _ _ _) λz Hz mz hj hm=>?_ |refine Ev.un (cz ‹_› _ _) λz Hz mz hj hm=>?_ |refine Ev.un (fj ‹_› _) λz Hz mz hj hm=>?_ |refine Ev.dq (dc ‹_›) λz zb Hz mz hj hm=>?_ |refine Ev.dq (fW ‹_› _) λz zb Hz mz hj hm=>?_ |refine Ev.jt (df ‹_› _ _) λz zb Hz mz hj hm=>?_ |refine Ev.num (hY _ ‹_› _) λz Hz mz hj hm=>?_ |refine Ev.dq (tM ‹_› (by omega) _ _) λz zb Hz mz hj hm=>?_ |refine Ev.wd (cA ‹_› _ _ _ _) λw Hz hj=>?_ |refine Ev.wd (bU ‹_›) λw Hz hj=>?_ |refine Ev.wd (ct ‹_› _ _) λw Hz hj=>?_ |refine Ev.wd (bz ‹_› _ _ _) λw Hz hj=>?_ |refine Ev.nh ‹_› λHz hj=>?_ |refine Ev.ni ‹_› λHz hj=>?_ |refine Ev.mE ‹_› λz=>?_ |refine Ev.br (λhq=>?_) (λhq=>?_))<;>try simp -implicitDefEqProofs only[sS,Nat.reduceAdd]))
 ·refine Ev.eql (λpT=>?_) (λpT=>?_)<;>try simp -implicitDefEqProofs only[sS,Nat.reduceAdd]
  ·refine Ev.call (BE h hM _ _ _) ?_;rintro v H1 ⟨t,l,m',ht,hj,hm,hl⟩
   try simp -implicitDefEqProofs only[sS,Nat.reduceAdd]
   exact J0 _ _ _ _ _ _ _ _ ht hj (by omega) (by omega)
  ·refine J0 (t:= -9) (l:=[]) _ _ _ _ _ _ _ _ (by omega) (m1:=m) ⟨hK.and (cI.kJ (by simp)),?_⟩ (Nat.le_refl _) (by simp)
   obtain⟨_,o,hr,hk⟩:=h;exact⟨o,hr,hk,.nil⟩
theorem pU (h:J K p m H)(hM:m≤2147483648)(a n x d i:Int):bA (run G) 167 [pv p,cv a,cv n,cv x,cv d,cv i] H (SF K p m):=by
 refine Ev.up (t:=λk=>Wf (run G k) k (pv p) (cv a) (cv n) (cv x) (cv d) (cv i) H) ?_ λk=>Rr ..
 simp -implicitDefEqProofs only[Wf,sS,Nat.reduceAdd];have hK:=h.1;refine Ev.call (Pt _ _) ?_;rintro v H1 ⟨rfl,rfl⟩
 try simp -implicitDefEqProofs only[sS,Nat.reduceAdd]
 refine Ev.call (Hi _ _) ?_;rintro v H1 ⟨rfl,rfl⟩
 try simp -implicitDefEqProofs only[sS,Nat.reduceAdd]
 refine Ev.call (BE h hM _ _ _) ?_;rintro y H1 ⟨t,l,m',ht,hj,hm,hl⟩
 try simp -implicitDefEqProofs only[sS,Nat.reduceAdd]
 refine Ev.off hj (λhq=>?_) (λhq=>?_)<;>try simp -implicitDefEqProofs only[sS,Nat.reduceAdd]
 ·exact Ev.ret ⟨_,rfl,_,hj.sl hK,by omega⟩
 refine Ev.dq (Py _ rfl (by omega) hj ht λH o a=>a.2) λz zb Hz mz Qg hmz=>?_
 simp -implicitDefEqProofs only[sS,Nat.reduceAdd];have DH:=Qg.sl hK;have J0: ∀{m1:Nat} {H1:aa} (x6 aJ cr aP aX cS ef:Value),J K p m1 H1→m1≤m→Ev (λk=>vX (run G k) k [pv p,cv a,cv n,cv x,cv d,cv i,x6,aJ,cr,aP,aX,cS,ef,cv z] H1) λr=>SF K p m r.1 r.2:=by
  intro m1 H1 x6 aJ cr aP aX cS ef hj hm;simp -implicitDefEqProofs only[Kt,yr,sS,Nat.reduceAdd];repeat' (first|exact Ev.ret ⟨_,rfl,_,by assumption,by omega⟩| ((with_reducible first|refine Ev.lss (λhq=>?_) (λhq=>?_)|refine Ev.gtr (λhq=>?_) (λhq=>?_)|refine Ev.leq (λhq=>?_) (λhq=>?_)|refine Ev.geq (λhq=>?_) (λhq=>?_)|refine Ev.eql (λhq=>?_) (λhq=>?_)|refine Ev.neq (λhq=>?_) (λhq=>?_)|refine Ev.off ‹_› (λhq=>?_) (λhq=>?_)|refine Ev.az (dj _) λz=>?_ |refine Ev.az (gT _) λz=>?_ |refine Ev.az (cG _ _) λz=>?_ |refine Ev.az (bH _ _ _) λz=>?_ |refine Ev.az (hX _ _) λz=>?_ |refine Ev.az (cX _) λz=>?_ |refine Ev.az (de _ _ _ _) λz=>?_ |refine Ev.num (cE ‹_› _) λz Hz mz hj hm=>?_ |refine Ev.num (eM ‹_› _ _) λz Hz mz hj hm=>?_ |refine Ev.num (eI ‹_› _) λz Hz mz hj hm=>?_ |refine Ev.num (fl ‹_› _) λz Hz mz hj hm=>?_ |refine Ev.num (ea ‹_› _ _) λz Hz mz hj hm=>?_ |refine Ev.num (fX ‹_› _ _ _ _) λz Hz mz hj hm=>?_ |refine Ev.bool (eN ‹_› _ _ _) λz Hz mz hj hm=>?_ |refine Ev.un (cz ‹_› _ _) λz Hz mz hj hm=>?_ |refine Ev.un (fj ‹_› _) λz Hz mz hj hm=>?_ |refine Ev.dq (dc ‹_›) λz zb Hz mz hj hm=>?_ |refine Ev.dq (fW ‹_› _) λz zb Hz mz hj hm=>?_ |refine Ev.jt (df ‹_› _ _) λz zb Hz mz hj hm=>?_ |refine Ev.num (hY _ ‹_› _) λz Hz mz hj hm=>?_ |refine Ev.dq (tM ‹_› (by omega) _ _) λz zb Hz mz hj hm=>?_ |refine Ev.bool (pU ‹_› (by omega) _ _ _ _ _) λz Hz mz hj hm=>?_ |refine Ev.wd (cA ‹_› _ _ _ _) λw Hz hj=>?_ |refine Ev.wd (bU ‹_›) λw Hz hj=>?_ |refine Ev.wd (ct ‹_› _ _) λw Hz hj=>?_ |refine Ev.wd (bz ‹_› _ _ _) λw Hz hj=>?_ |refine Ev.nh ‹_› λHz hj=>?_ |refine Ev.ni ‹_› λHz hj=>?_ |refine Ev.mE ‹_› λz=>?_ |refine Ev.br (λhq=>?_) (λhq=>?_))<;>try simp -implicitDefEqProofs only[sS,Nat.reduceAdd]))
 refine Ev.br (λhq=>?_) (λhq=>?_)<;>try simp -implicitDefEqProofs only[sS,Nat.reduceAdd]
 ·exact Ev.ret ⟨_,rfl,_,DH,by omega⟩
 obtain⟨_,o1,Gl,Hv,hs⟩:=id Qg;refine Ev.gtr (λhq=>?_) (λhq=>?_)<;>try simp -implicitDefEqProofs only[hs.len,sS,Nat.reduceAdd]
 ·refine Ev.gtr (λpT=>?_) (λpT=>?_)<;>try simp -implicitDefEqProofs only[sS,Nat.reduceAdd]
  ·refine Ev.az (cG _ _) λzk=>?_
   obtain⟨i',off,b,e1,e2,e3,e4⟩:=hs.idx (j:=0) (by omega)
   obtain⟨e5,e6,_⟩:=e4 _ e2;simp only[Int.natCast_zero] at e1;simp -implicitDefEqProofs only[e1,aQ,Nat.add_zero,e5,sS,Nat.reduceAdd];refine Ev.un (cz DH _ _) λv Hz mz hj hm=>?_
   try simp -implicitDefEqProofs only[e5,sS,Nat.reduceAdd]
   exact J0 _ _ _ _ _ _ _ hj (by omega)
  ·exact J0 _ _ _ _ _ _ _ DH (by omega)
 ·exact J0 _ _ _ _ _ _ _ DH (by omega)
theorem n6 (h:J K p m H)(hM:m≤2147483648)(a t n x:Int):bA (run G) 156 [pv p,cv a,cv t,cv n,cv x] H (SF K p m):=by
 refine Ev.up (t:=λk=>Xg (run G k) k (pv p) (cv a) (cv t) (cv n) (cv x) H) ?_ λk=>RZ ..
 simp -implicitDefEqProofs only[Xg,sS,Nat.reduceAdd];refine Ev.call (pQ _) ?_;rintro v TF ⟨rfl,rfl⟩
 try simp -implicitDefEqProofs only[sS,Nat.reduceAdd]
 refine Ev.BA (λvs=>∃(aG bg aK cH cr cS aJ eV aP gv ic:Value),vs=[pv p,cv a,cv t,cv n,cv x,aG,bg,aK,cv (du n),cH,cr,cS,aJ,eV,aP,gv,ic])
  (λe vs=>(e= .exit 0∨(e= .ret∧∃u,vs[5]? =some (.bool u)))∧∃(aG bg aK cH cr cS aJ eV aP gv ic:Value),vs=[pv p,cv a,cv t,cv n,cv x,aG,bg,aK,cv (du n),cH,cr,cS,aJ,eV,aP,gv,ic]) h ⟨_,_,_,_,_,_,_,_,_,_,_,rfl⟩ ?_ ?_
 ·rintro m1 vs Hx hj hm ⟨aG,bg,aK,cH,cr,cS,aJ,eV,aP,gv,ic,rfl⟩;simp -implicitDefEqProofs only[KZ,yV,sS,Nat.reduceAdd];repeat' (first| (with_reducible exact Ev.ret (.inl ⟨rfl,⟨_,by assumption,by omega⟩,_,_,_,_,_,_,_,_,_,_,_,rfl⟩))| (with_reducible exact Ev.ret (.inr ⟨by simp,⟨_,by assumption,by omega⟩,.inl rfl,_,_,_,_,_,_,_,_,_,_,_,rfl⟩))| (with_reducible exact Ev.ret (.inr ⟨by simp,⟨_,by assumption,by omega⟩,.inr ⟨rfl,_,rfl⟩,_,_,_,_,_,_,_,_,_,_,_,rfl⟩))| ((with_reducible first|refine Ev.lss (λhq=>?_) (λhq=>?_)|refine Ev.gtr (λhq=>?_) (λhq=>?_)|refine Ev.leq (λhq=>?_) (λhq=>?_)|refine Ev.geq (λhq=>?_) (λhq=>?_)|refine Ev.eql (λhq=>?_) (λhq=>?_)|refine Ev.neq (λhq=>?_) (λhq=>?_)|refine Ev.off ‹_› (λhq=>?_) (λhq=>?_)|refine Ev.az (dj _) λz=>?_ |refine Ev.az (gT _) λz=>?_ |refine Ev.az (cG _ _) λz=>?_ |refine Ev.az (bH _ _ _) λz=>?_ |refine Ev.az (hX _ _) λz=>?_ |refine Ev.az (cX _) λz=>?_ |refine Ev.az (de _ _ _ _) λz=>?_ |refine Ev.num (cE ‹_› _) λz Hz mz hj hm=>?_ |refine Ev.num (eM ‹_› _ _) λz Hz mz hj hm=>?_ |refine Ev.num (eI ‹_› _) λz Hz mz hj hm=>?_ |refine Ev.num (fl ‹_› _) λz Hz mz hj hm=>?_ |refine Ev.num (ea ‹_› _ _) λz Hz mz hj hm=>?_ |refine Ev.num (fX ‹_› _ _ _ _) λz Hz mz hj hm=>?_ |refine Ev.bool (eN ‹_› _ _ _) λz Hz mz hj hm=>?_ |refine Ev.un (cz ‹_› _ _) λz Hz mz hj hm=>?_ |refine Ev.un (fj ‹_› _) λz Hz mz hj hm=>?_ |refine Ev.dq (dc ‹_›) λz zb Hz mz hj hm=>?_ |refine Ev.dq (fW ‹_› _) λz zb Hz mz hj hm=>?_ |refine Ev.jt (df ‹_› _ _) λz zb Hz mz hj hm=>?_ |refine Ev.num (hY _ ‹_› _) λz Hz mz hj hm=>?_ |refine Ev.dq (tM ‹_› (by omega) _ _) λz zb Hz mz hj hm=>?_ |refine Ev.bool (pU ‹_› (by omega) _ _ _ _ _) λz Hz mz hj hm=>?_ |refine Ev.bool (n6 ‹_› (by omega) _ _ _ _) λz Hz mz hj hm=>?_ |refine Ev.wd (cA ‹_› _ _ _ _) λw Hz hj=>?_ |refine Ev.wd (bU ‹_›) λw Hz hj=>?_ |refine Ev.wd (ct ‹_› _ _) λw Hz hj=>?_ |refine Ev.wd (bz ‹_› _ _ _) λw Hz hj=>?_ |refine Ev.nh ‹_› λHz hj=>?_ |refine Ev.ni ‹_› λHz hj=>?_ |refine Ev.mE ‹_› λz=>?_ |refine Ev.br (λhq=>?_) (λhq=>?_))<;>try simp -implicitDefEqProofs only[sS,Nat.reduceAdd]))
  all_goals exact Ev.ret (.inr ⟨by simp,⟨_,by assumption,by omega⟩,.inr ⟨rfl,_,rfl⟩,_,_,_,_,_,_,_,_,_,_,_,rfl⟩)
 ·rintro e vs m1 H1 hj hm ⟨he,aG,bg,aK,cH,cr,cS,aJ,eV,aP,gv,ic,rfl⟩;rcases he with rfl|⟨rfl,u,e1⟩
  ·simp -implicitDefEqProofs only[KY,yU,sS,Nat.reduceAdd];refine Ev.loop (k:=(du n).toNat) (λk vs Hx=>∃(i m2:Nat) (aG bg aK cH cr cS eV aP gv ic:Value),J K p m2 Hx∧m2≤m1∧(i:Int)+k=du n∧vs=[pv p,cv a,cv t,cv n,cv x,aG,bg,aK,cv (du n),cH,cr,cS,cv i,eV,aP,gv,ic])
    (λr=>(∃m2,J K p m2 r.2.2∧m2≤m1)∧(r.1= .exit 2∨(r.1= .ret∧∃u,r.2.1[5]? =some (.bool u)))∧∃(aG bg aK cH cr cS aJ eV aP gv ic:Value),r.2.1=[pv p,cv a,cv t,cv n,cv x,aG,bg,aK,cv (du n),cH,cr,cS,aJ,eV,aP,gv,ic]) ⟨0,m1,_,_,_,_,_,_,_,_,_,_,hj,Nat.le_refl _,by have:=tL n;omega,rfl⟩ ?_ ?_
   ·rintro k vs Hx ⟨i,m2,aG,bg,aK,cH,cr,cS,eV,aP,gv,ic,jb,DP,hik,rfl⟩;have hdn:=tL n;have hw:IntKind.i64.wrap ((i:Int)+1)=((i+1:Nat):Int):=by rw[kr (by omega)];omega
    have kN: ∀{m2:Nat} {H2:aa} (aG bg aK cH cr cS eV aP gv ic:Value),J K p m2 H2→m2≤m1→(i:Int)<du n→Ev (λk=>wa (run G k) k [pv p,cv a,cv t,cv n,cv x,aG,bg,aK,cv (du n),cH,cr,cS,cv i,eV,aP,gv,ic] H2) λr=>(r.1= .normal∧∃k',k'<k∧∃(i m2:Nat) (aG bg aK cH cr cS eV aP gv ic:Value),J K p m2 r.2.2∧m2≤m1∧(i:Int)+k'=du n∧r.2.1=[pv p,cv a,cv t,cv n,cv x,aG,bg,aK,cv (du n),cH,cr,cS,cv i,eV,aP,gv,ic])∨(r.1≠ .normal∧(∃m2,J K p m2 r.2.2∧m2≤m1)∧(r.1= .exit 2∨(r.1= .ret∧∃u,r.2.1[5]? =some (.bool u)))∧∃(aG bg aK cH cr cS aJ eV aP gv ic:Value),r.2.1=[pv p,cv a,cv t,cv n,cv x,aG,bg,aK,cv (du n),cH,cr,cS,aJ,eV,aP,gv,ic]):=by
     intro m2 H2 aG bg aK cH cr cS eV aP gv ic hj hm hi;simp -implicitDefEqProofs only[KU,yR,hw,sS,Nat.reduceAdd];exact Ev.ret (.inl ⟨rfl,k-1,by omega,i+1,m2,_,_,_,_,_,_,_,_,_,_,hj,hm,by omega,rfl⟩)
    simp -implicitDefEqProofs only[KV,yS,sS,Nat.reduceAdd];repeat' (first| (with_reducible exact kN _ _ _ _ _ _ _ _ _ _ ‹_› (by omega) (by omega))| (with_reducible exact Ev.ret (.inr ⟨by simp,⟨_,by assumption,by omega⟩,.inl rfl,_,_,_,_,_,_,_,_,_,_,_,rfl⟩))| ((with_reducible first|refine Ev.lss (λhq=>?_) (λhq=>?_)|refine Ev.gtr (λhq=>?_) (λhq=>?_)|refine Ev.leq (λhq=>?_) (λhq=>?_)|refine Ev.geq (λhq=>?_) (λhq=>?_)|refine Ev.eql (λhq=>?_) (λhq=>?_)|refine Ev.neq (λhq=>?_) (λhq=>?_)|refine Ev.off ‹_› (λhq=>?_) (λhq=>?_)|refine Ev.az (dj _) λz=>?_ |refine Ev.az (gT _) λz=>?_ |refine Ev.az (cG _ _) λz=>?_ |refine Ev.az (bH _ _ _) λz=>?_ |refine Ev.az (hX _ _) λz=>?_ |refine Ev.az (cX _) λz=>?_ |refine Ev.az (de _ _ _ _) λz=>?_ |refine Ev.num (cE ‹_› _) λz Hz mz hj hm=>?_ |refine Ev.num (eM ‹_› _ _) λz Hz mz hj hm=>?_ |refine Ev.num (eI ‹_› _) λz Hz mz hj hm=>?_ |refine Ev.num (fl ‹_› _) λz Hz mz hj hm=>?_ |refine Ev.num (ea ‹_› _ _) λz Hz mz hj hm=>?_ |refine Ev.num (fX ‹_› _ _ _ _) λz Hz mz hj hm=>?_ |refine Ev.bool (eN ‹_› _ _ _) λz Hz mz hj hm=>?_ |refine Ev.un (cz ‹_› _ _) λz Hz mz hj hm=>?_ |refine Ev.un (fj ‹_› _) λz Hz mz hj hm=>?_ |refine Ev.dq (dc ‹_›) λz zb Hz mz hj hm=>?_ |refine Ev.dq (fW ‹_› _) λz zb Hz mz hj hm=>?_ |refine Ev.jt (df ‹_› _ _) λz zb Hz mz hj hm=>?_ |refine Ev.num (hY _ ‹_› _) λz Hz mz hj hm=>?_ |refine Ev.dq (tM ‹_› (by omega) _ _) λz zb Hz mz hj hm=>?_ |refine Ev.bool (pU ‹_› (by omega) _ _ _ _ _) λz Hz mz hj hm=>?_ |refine Ev.bool (n6 ‹_› (by omega) _ _ _ _) λz Hz mz hj hm=>?_ |refine Ev.wd (cA ‹_› _ _ _ _) λw Hz hj=>?_ |refine Ev.wd (bU ‹_›) λw Hz hj=>?_ |refine Ev.wd (ct ‹_› _ _) λw Hz hj=>?_ |refine Ev.wd (bz ‹_› _ _ _) λw Hz hj=>?_ |refine Ev.nh ‹_› λHz hj=>?_ |refine Ev.ni ‹_› λHz hj=>?_ |refine Ev.mE ‹_› λz=>?_ |refine Ev.br (λhq=>?_) (λhq=>?_))<;>try simp -implicitDefEqProofs only[sS,Nat.reduceAdd]))
    all_goals exact Ev.ret (.inr ⟨by simp,⟨_,by assumption,by omega⟩,.inr ⟨rfl,_,rfl⟩,_,_,_,_,_,_,_,_,_,_,_,rfl⟩)
   ·rintro e vs H2 ⟨⟨m2,jb,DP⟩,he,aG,bg,aK,cH,cr,cS,aJ,eV,aP,gv,ic,rfl⟩;rcases he with he|⟨he,u,e1⟩
    ·simp only at he;subst he;simp -implicitDefEqProofs only[KX,yT,sS,Nat.reduceAdd];exact Ev.ret ⟨_,rfl,_,jb,by omega⟩
    ·simp only at he;subst he;simp only[List.getElem?_cons_succ,List.getElem?_cons_zero,Option.some.injEq] at e1;subst e1;show Ev (λ_=>some (Value.bool u,H2)) _
     exact Ev.ret ⟨_,rfl,_,jb,by omega⟩
  ·simp only[List.getElem?_cons_succ,List.getElem?_cons_zero,Option.some.injEq] at e1;subst e1;show Ev (λ_=>some (Value.bool u,H1)) _
   exact Ev.ret ⟨_,rfl,_,hj,by omega⟩
theorem qA (h:J K p m H)(hM:m≤2147483648)(a:Int):bA (run G) 141 [pv p,cv a] H (SF K p (m-1)):=by
 refine Ev.up (t:=λk=>Wc (run G k) k (pv p) (cv a) H) ?_ λk=>Ro ..
 simp -implicitDefEqProofs only[Wc,sS,Nat.reduceAdd];have J0: ∀{m1:Nat} {H1:aa} (n w tt:Int) (x4 cB cH x9 dF x8 fE aG aN:Value),J K p m1 H1→m1≤m-1→Ev (λk=>vW (run G k) k [pv p,cv a,x4,cv tt,cB,cv w,cH,cv n,x9,dF,x8,fE,aG,aN] H1) λr=>SF K p (m-1) r.1 r.2:=by
  intro m1 H1 n w tt x4 cB cH x9 dF x8 fE aG aN hj hm;simp -implicitDefEqProofs only[Ks,yq,sS,Nat.reduceAdd];repeat' (first| (with_reducible exact Ev.ret ⟨_,rfl,_,by assumption,by omega⟩)| ((with_reducible first|refine Ev.lss (λhq=>?_) (λhq=>?_)|refine Ev.gtr (λhq=>?_) (λhq=>?_)|refine Ev.leq (λhq=>?_) (λhq=>?_)|refine Ev.geq (λhq=>?_) (λhq=>?_)|refine Ev.eql (λhq=>?_) (λhq=>?_)|refine Ev.neq (λhq=>?_) (λhq=>?_)|refine Ev.off ‹_› (λhq=>?_) (λhq=>?_)|refine Ev.az (dj _) λz=>?_ |refine Ev.az (gT _) λz=>?_ |refine Ev.az (cG _ _) λz=>?_ |refine Ev.az (bH _ _ _) λz=>?_ |refine Ev.az (hX _ _) λz=>?_ |refine Ev.az (cX _) λz=>?_ |refine Ev.az (de _ _ _ _) λz=>?_ |refine Ev.num (cE ‹_› _) λz Hz mz hj hm=>?_ |refine Ev.num (eM ‹_› _ _) λz Hz mz hj hm=>?_ |refine Ev.num (eI ‹_› _) λz Hz mz hj hm=>?_ |refine Ev.num (fl ‹_› _) λz Hz mz hj hm=>?_ |refine Ev.num (ea ‹_› _ _) λz Hz mz hj hm=>?_ |refine Ev.num (fX ‹_› _ _ _ _) λz Hz mz hj hm=>?_ |refine Ev.bool (eN ‹_› _ _ _) λz Hz mz hj hm=>?_ |refine Ev.un (cz ‹_› _ _) λz Hz mz hj hm=>?_ |refine Ev.un (fj ‹_› _) λz Hz mz hj hm=>?_ |refine Ev.dq (dc ‹_›) λz zb Hz mz hj hm=>?_ |refine Ev.dq (fW ‹_› _) λz zb Hz mz hj hm=>?_ |refine Ev.jt (df ‹_› _ _) λz zb Hz mz hj hm=>?_ |refine Ev.num (hY _ ‹_› _) λz Hz mz hj hm=>?_ |refine Ev.dq (tM ‹_› (by omega) _ _) λz zb Hz mz hj hm=>?_ |refine Ev.bool (pU ‹_› (by omega) _ _ _ _ _) λz Hz mz hj hm=>?_ |refine Ev.bool (n6 ‹_› (by omega) _ _ _ _) λz Hz mz hj hm=>?_ |refine Ev.bool (qA ‹_› (by omega) _) λz Hz mz hj hm=>?_ |refine Ev.wd (cA ‹_› _ _ _ _) λw Hz hj=>?_ |refine Ev.wd (bU ‹_›) λw Hz hj=>?_ |refine Ev.wd (ct ‹_› _ _) λw Hz hj=>?_ |refine Ev.wd (bz ‹_› _ _ _) λw Hz hj=>?_ |refine Ev.nh ‹_› λHz hj=>?_ |refine Ev.ni ‹_› λHz hj=>?_ |refine Ev.mE ‹_› λz=>?_ |refine Ev.br (λhq=>?_) (λhq=>?_))<;>try simp -implicitDefEqProofs only[sS,Nat.reduceAdd]))
 repeat' (first| (with_reducible exact Ev.ret ⟨_,rfl,_,by assumption,by omega⟩)| (with_reducible exact J0 _ _ _ _ _ _ _ _ _ _ _ _ ‹_› (by omega))| ((with_reducible first|refine Ev.lss (λhq=>?_) (λhq=>?_)|refine Ev.gtr (λhq=>?_) (λhq=>?_)|refine Ev.leq (λhq=>?_) (λhq=>?_)|refine Ev.geq (λhq=>?_) (λhq=>?_)|refine Ev.eql (λhq=>?_) (λhq=>?_)|refine Ev.neq (λhq=>?_) (λhq=>?_)|refine Ev.off ‹_› (λhq=>?_) (λhq=>?_)|refine Ev.az (dj _) λz=>?_ |refine Ev.az (gT _) λz=>?_ |refine Ev.az (cG _ _) λz=>?_ |refine Ev.az (bH _ _ _) λz=>?_ |refine Ev.az (hX _ _) λz=>?_ |refine Ev.az (cX _) λz=>?_ |refine Ev.az (de _ _ _ _) λz=>?_ |refine Ev.num (cE ‹_› _) λz Hz mz hj hm=>?_ |refine Ev.num (eM ‹_› _ _) λz Hz mz hj hm=>?_ |refine Ev.num (eI ‹_› _) λz Hz mz hj hm=>?_ |refine Ev.num (fl ‹_› _) λz Hz mz hj hm=>?_ |refine Ev.num (ea ‹_› _ _) λz Hz mz hj hm=>?_ |refine Ev.num (fX ‹_› _ _ _ _) λz Hz mz hj hm=>?_ |refine Ev.bool (eN ‹_› _ _ _) λz Hz mz hj hm=>?_ |refine Ev.un (cz ‹_› _ _) λz Hz mz hj hm=>?_ |refine Ev.un (fj ‹_› _) λz Hz mz hj hm=>?_ |refine Ev.dq (dc ‹_›) λz zb Hz mz hj hm=>?_ |refine Ev.dq (fW ‹_› _) λz zb Hz mz hj hm=>?_ |refine Ev.jt (df ‹_› _ _) λz zb Hz mz hj hm=>?_ |refine Ev.num (hY _ ‹_› _) λz Hz mz hj hm=>?_ |refine Ev.dq (tM ‹_› (by omega) _ _) λz zb Hz mz hj hm=>?_ |refine Ev.bool (pU ‹_› (by omega) _ _ _ _ _) λz Hz mz hj hm=>?_ |refine Ev.bool (n6 ‹_› (by omega) _ _ _ _) λz Hz mz hj hm=>?_ |refine Ev.bool (qA ‹_› (by omega) _) λz Hz mz hj hm=>?_ |refine Ev.wd (cA ‹_› _ _ _ _) λw Hz hj=>?_ |refine Ev.wd (bU ‹_›) λw Hz hj=>?_ |refine Ev.wd (ct ‹_› _ _) λw Hz hj=>?_ |refine Ev.wd (bz ‹_› _ _ _) λw Hz hj=>?_ |refine Ev.nh ‹_› λHz hj=>?_ |refine Ev.ni ‹_› λHz hj=>?_ |refine Ev.mE ‹_› λz=>?_ |refine Ev.br (λhq=>?_) (λhq=>?_))<;>try simp -implicitDefEqProofs only[sS,Nat.reduceAdd]))
theorem aa4 (a b c:Int)(H:aa):cO 138 (.agg #[cv a,cv b,cv c]) H=some (pv H.length,H.new ⟨[cv a,cv b,cv c],138,1,false⟩):=by
 simp[cO,Value.cells,av,aO]
theorem J.box (h:J K p m H)(cs:List Value)(T:TypeId):J (λH' o=>K H' o∧H'.get H.length=some ⟨cs,T,1,false⟩∧o H.length= -9∧H.length<H'.length) p m (H.new ⟨cs,T,1,false⟩):=by
 obtain⟨hK,o,hr,hk⟩:=h;have f:Fr H o (H.new ⟨cs,T,1,false⟩) (o.up H.length (-9)) []:=(Fr.refl H o []).new _ _;refine⟨hK.and λH1 o1 H2 o2 a f=>?_,_,hr.fr f (by simp) (by simp) (by simp),hK _ _ _ _ hk (f.wk (by simp)),ay,aH,by rw[aW];omega⟩
 obtain⟨a1,a2,a3⟩:=a;exact⟨by rw[f.same _ a3 (by rw[a2];simp)];exact a1,by rw[f.own _ a3];exact a2,by have:=f.size;omega⟩
theorem wu (h:J K p m H)(hM:m≤2147483648)(a b c:Int):bA (run G) 142 [pv p,.agg #[cv a,cv b,cv c]] H (SF K p m):=by
 refine Ev.up (t:=λk=>Xc (run G k) k (pv p) (.agg #[cv a,cv b,cv c]) H) ?_ λk=>RV ..
 have hK:=h.1;have hjb:=h.box [cv a,cv b,cv c] 138;have jr: ∀{m':Nat} {H':aa},J (λH' o=>K H' o∧H'.get H.length=some ⟨[cv a,cv b,cv c],138,1,false⟩∧o H.length= -9∧H.length<H'.length) p m' H'→J K p m' H':=λhj=>hj.mono hK λo a=>a.1
 obtain⟨H1,e1⟩: ∃z,z=H.new ⟨[cv a,cv b,cv c],138,1,false⟩:=⟨_,rfl⟩;have g1:H1.get H.length=some ⟨[cv a,cv b,cv c],138,1,false⟩:=by rw[e1];exact ay
 rw[←e1] at hjb;have L0:=λ{H':aa} (g:H'.get H.length=some ⟨[cv a,cv b,cv c],138,1,false⟩)=>ak H.length 0 H' g
 have L1:=λ{H':aa} (g:H'.get H.length=some ⟨[cv a,cv b,cv c],138,1,false⟩)=>ak H.length 1 H' g
 have L2:=λ{H':aa} (g:H'.get H.length=some ⟨[cv a,cv b,cv c],138,1,false⟩)=>ak H.length 2 H' g
 simp only[List.getElem?_cons_succ,List.getElem?_cons_zero] at L0 L1 L2;simp -implicitDefEqProofs only[Xc,aa4, ←e1,L0 g1,L1 g1,L2 g1,sS,Nat.reduceAdd];refine Ev.wd (bz hjb _ _ _) λw Hz hj=>?_
 refine Ev.dq (dc hj) λz zb Hz mz hj hm=>?_
 cases zb<;>simp -implicitDefEqProofs only[sS,Nat.reduceAdd]
 ·exact Ev.ret ⟨_,rfl,_,jr hj,by omega⟩
 obtain⟨_,o2,_,_,g2,_⟩:=id hj;simp -implicitDefEqProofs only[L0 g2,L1 g2,L2 g2,sS,Nat.reduceAdd];refine Ev.az (hX _ _) λz=>?_
 refine Ev.num (fX hj _ _ _ _) λz Hz mz jb DP=>?_
 simp -implicitDefEqProofs only[L0 g2,L1 g2,L2 g2,sS,Nat.reduceAdd];have kg:=jr jb;repeat' (first| (with_reducible exact Ev.ret ⟨_,rfl,_,by assumption,by omega⟩)| ((with_reducible first|refine Ev.lss (λhq=>?_) (λhq=>?_)|refine Ev.gtr (λhq=>?_) (λhq=>?_)|refine Ev.leq (λhq=>?_) (λhq=>?_)|refine Ev.geq (λhq=>?_) (λhq=>?_)|refine Ev.eql (λhq=>?_) (λhq=>?_)|refine Ev.neq (λhq=>?_) (λhq=>?_)|refine Ev.off ‹_› (λhq=>?_) (λhq=>?_)|refine Ev.az (dj _) λz=>?_ |refine Ev.az (gT _) λz=>?_ |refine Ev.az (cG _ _) λz=>?_ |refine Ev.az (bH _ _ _) λz=>?_ |refine Ev.az (hX _ _) λz=>?_ |refine Ev.az (cX _) λz=>?_ |refine Ev.az (de _ _ _ _) λz=>?_ |refine Ev.num (cE ‹_› _) λz Hz mz hj hm=>?_ |refine Ev.num (eM ‹_› _ _) λz Hz mz hj hm=>?_ |refine Ev.num (eI ‹_› _) λz Hz mz hj hm=>?_ |refine Ev.num (fl ‹_› _) λz Hz mz hj hm=>?_ |refine Ev.num (ea ‹_› _ _) λz Hz mz hj hm=>?_ |refine Ev.num (fX ‹_› _ _ _ _) λz Hz mz hj hm=>?_ |refine Ev.bool (eN ‹_› _ _ _) λz Hz mz hj hm=>?_ |refine Ev.un (cz ‹_› _ _) λz Hz mz hj hm=>?_ |refine Ev.un (fj ‹_› _) λz Hz mz hj hm=>?_ |refine Ev.dq (dc ‹_›) λz zb Hz mz hj hm=>?_ |refine Ev.dq (fW ‹_› _) λz zb Hz mz hj hm=>?_ |refine Ev.jt (df ‹_› _ _) λz zb Hz mz hj hm=>?_ |refine Ev.num (hY _ ‹_› _) λz Hz mz hj hm=>?_ |refine Ev.dq (tM ‹_› (by omega) _ _) λz zb Hz mz hj hm=>?_ |refine Ev.bool (pU ‹_› (by omega) _ _ _ _ _) λz Hz mz hj hm=>?_ |refine Ev.bool (n6 ‹_› (by omega) _ _ _ _) λz Hz mz hj hm=>?_ |refine Ev.bool (qA ‹_› (by omega) _) λz Hz mz hj hm=>?_ |refine Ev.bool (wu ‹_› (by omega) _ _ _) λz Hz mz hj hm=>?_ |refine Ev.wd (cA ‹_› _ _ _ _) λw Hz hj=>?_ |refine Ev.wd (bU ‹_›) λw Hz hj=>?_ |refine Ev.wd (ct ‹_› _ _) λw Hz hj=>?_ |refine Ev.wd (bz ‹_› _ _ _) λw Hz hj=>?_ |refine Ev.nh ‹_› λHz hj=>?_ |refine Ev.ni ‹_› λHz hj=>?_ |refine Ev.mE ‹_› λz=>?_ |refine Ev.br (λhq=>?_) (λhq=>?_))<;>try simp -implicitDefEqProofs only[sS,Nat.reduceAdd]))
end
section
variable {G:ae} {H H':aa} {o o':aj} {p m c:Nat} {K K':aa→aj→Prop} {t q:Int} {x:Value} {l:PL} {n:Nat}
def Fp (H:aa)(o:aj)(q:Int)(x:Value)(n:Nat):Prop:=
 (x= .slice none 0 0∧n=0)∨∃(i cap:Nat) (cells:List Value) (ty:TypeId),x= .slice (some ⟨i,0,none⟩) n cap∧H.get i=some ⟨cells,ty,3,false⟩∧cells.length=3*cap∧n≤cap∧o i=q∧∀j,j<3*n→∃a,cells[j]? =some (cv a)
theorem Fp.fr {ps:List Int}(h:Fp H o q x n)(f:Fr H o H' o' ps)(hp:q ∉ ps):Fp H' o' q x n:=by
 rcases h with h|⟨i,cap,cells,ty,h1,h2,h3,h4,h5,h6⟩
 ·exact .inl h
 ·exact .inr ⟨i,cap,cells,ty,h1,by rw[f.same i (an h2) (by rw[h5];exact hp)];exact h2,h3,h4,by rw[f.own i (an h2)];exact h5,h6⟩
theorem cI.en {ps:List Int}(h:q ∉ ps):cI ps λH o=>Fp H o q x n:=λH o H' o' a f=>a.fr f h
theorem Fp.len (h:Fp H o q x n):cw x=some (cv n):=by
 rcases h with⟨rfl,rfl⟩|⟨i,cap,cells,ty,rfl,_⟩<;>rfl
theorem Fp.idx (h:Fp H o q x n){j:Nat}(hj:j<n): ∃(i off:Nat) (b:eu) (a0 a1 a2:Int),(∀H',cq 3 x (cv j) H'=some (.pointer (some ⟨i,off,none⟩),H'))∧H.get i=some b∧o i=q∧
  ∀H':aa,H'.get i=some b→aq (.pointer (some ⟨i,off+2,none⟩)) H'=some (cv a2)∧cK 3 (.pointer (some ⟨i,off,none⟩)) H'=some (.agg #[cv a0,cv a1,cv a2]):=by
 rcases h with⟨rfl,rfl⟩|⟨i,cap,cells,ty,rfl,h2,h3,h4,h5,h6⟩
 ·omega
 ·obtain⟨a0,e0⟩:=h6 (3*j) (by omega)
  obtain⟨a1,e1⟩:=h6 (3*j+1) (by omega)
  obtain⟨a2,e2⟩:=h6 (3*j+2) (by omega)
  refine⟨i,3*j,_,a0,a1,a2,λH'=>?_,h2,h5,λH' g=>⟨?_,?_⟩⟩
  ·simp only[cq];rw[if_pos (by constructor<;>omega)];simp<;>omega
  ·rw[ak i _ H' g];exact e2
  ·have iX:aw H' i (3*j) 3=some [cv a0,cv a1,cv a2]:=by
    simp only[aw,g];rw[if_pos (by omega)]
    rw[List.getElem?_eq_getElem (by omega)] at e0 e1 e2
    simp only[Option.some.injEq] at e0 e1 e2;rw[List.drop_eq_getElem_cons (by omega),List.drop_eq_getElem_cons (by omega),List.drop_eq_getElem_cons (by omega),e0,e1,e2]
    rfl
   simp only[cK,iX]
theorem Fp.app (T ty:TypeId)(h:Fp H o q x n)(a b c:Int)(hb:n+1≤4294967296):
  ∃x' H2 o2,cg T 3 24 x (.slice (some ⟨H.length,0,none⟩) 1 1) (H.new ⟨[cv a,cv b,cv c],ty,3,false⟩)=some (x',H2)∧Fp H2 o2 q x' (n+1)∧Fr H o H2 o2 [q]:=by
 obtain⟨H1,e1⟩: ∃z,z=H.new ⟨[cv a,cv b,cv c],ty,3,false⟩:=⟨_,rfl⟩;have l1:H1.length=H.length+1:=by rw[e1,aW]
 have g1:H1.get H.length=some ⟨[cv a,cv b,cv c],ty,3,false⟩:=by rw[e1];exact ay
 have f1:Fr H o H1 (o.up H.length (-9)) [q]:=by rw[e1];exact(Fr.refl H o [q]).new _ _
 have vD:bq H1 3 1 (.slice (some ⟨H.length,0,none⟩) 1 1)=some [cv a,cv b,cv c]:=by simp[bq,aw,g1]
 rw[←e1];rcases h with⟨rfl,rfl⟩|⟨i,cap,cells,Co,rfl,h2,h3,h4,h5,h6⟩
 ·refine⟨.slice (some ⟨H1.length,0,none⟩) 1 1,H1.new ⟨[cv a,cv b,cv c],T,3,false⟩,(o.up H.length (-9)).up H1.length q,?_,.inr ⟨H1.length,1,_,T,rfl,ay,by simp,by omega,aH,λj hj=>?_⟩,f1.new _ _⟩
  ·simp[cg,vD]
  ·rcases j with _|_|_|j
   ·exact⟨a,rfl⟩
   ·exact⟨b,rfl⟩
   ·exact⟨c,rfl⟩
   ·omega
 ·have JB:=an h2;have g2:H1.get i=some ⟨cells,Co,3,false⟩:=by rw[e1,cD JB];exact h2
  by_cases ig:n+1≤cap
  ·obtain⟨c2,ec2⟩: ∃c2,c2=bB cells (n*3) [cv a,cv b,cv c]:=⟨_,rfl⟩;have hc2:c2.length=cells.length∧∀j,j<3*(n+1)→∃a,c2[j]? =some (cv a):=by
    subst ec2;simp only[bB];refine⟨by simp,λj hj=>?_⟩
    rw[List.getElem?_set,List.getElem?_set,List.getElem?_set];simp only[List.length_set];by_cases j2:n*3+1+1=j
    ·rw[if_pos j2,if_pos (by omega)];exact⟨c,rfl⟩
    ·rw[if_neg j2];by_cases j1:n*3+1=j
     ·rw[if_pos j1,if_pos (by omega)];exact⟨b,rfl⟩
     ·rw[if_neg j1];by_cases j0:n*3=j
      ·rw[if_pos j0,if_pos (by omega)];exact⟨a,rfl⟩
      ·rw[if_neg j0];exact h6 j (by omega)
   refine⟨.slice (some ⟨i,0,none⟩) (n+1) cap,H1.put i ⟨c2,Co,3,false⟩,o.up H.length (-9),?_,.inr ⟨i,cap,c2,Co,rfl,aD g2,by omega,ig,by rw[cZ (by omega)];exact h5,hc2.2⟩,f1.put λ_=>by simp[h5]⟩
   simp only[cg,vD,Option.map_some];rw[if_pos ig,if_neg (by omega)]
   simp only[g2,if_true,bl];rw[if_pos (by simp[av];omega)]
   simp only[Option.map_some,Nat.zero_add,ec2]
  ·refine⟨.slice (some ⟨H1.length,0,none⟩) (n+1) (n+1),(H1.kill i).new ⟨cells.take (n*3)++[cv a,cv b,cv c],T,3,false⟩,(o.up H.length (-9)).up H1.length q,?_,.inr ⟨H1.length,n+1,cells.take (n*3)++[cv a,cv b,cv c],T,rfl,?_,by simp;omega,by omega,aH,λj hj=>?_⟩,?_⟩
   ·simp only[cg,vD,Option.map_some];rw[if_neg ig,if_pos (by simp;omega)]
    simp only[g2];rw[if_pos (by simp;omega)]
    have e:aw H1 i 0 (n*3)=some (cells.take (n*3)):=by
     simp only[aw,g2];rw[if_pos (by omega)];rfl
    simp only[e]
   ·have:=ay (H:=H1.kill i) (c:=⟨cells.take (n*3)++[cv a,cv b,cv c],T,3,false⟩)
    rw[dh] at this;exact this
   ·rcases Nat.lt_or_ge j (n*3) with g|g
    ·rw[List.getElem?_append_left (by simp;omega),List.getElem?_take,if_pos g]
     exact h6 j (by omega)
    ·rw[List.getElem?_append_right (by simp;omega)]
     have:(cells.take (n*3)).length=n*3:=by simp;omega
     rw[this];obtain⟨d,rfl⟩: ∃d,j=n*3+d:=⟨j-n*3,by omega⟩
     rw[Nat.add_sub_cancel_left];rcases d with _|_|_|d
     ·exact⟨a,rfl⟩
     ·exact⟨b,rfl⟩
     ·exact⟨c,rfl⟩
     ·omega
   ·have f2:=(f1.kill (i:=i) (λ_=>by simp[h5])).new ⟨cells.take (n*3)++[cv a,cv b,cv c],T,3,false⟩ q
    rw[dh] at f2;exact f2
theorem SK (h:J K p m H)(hM:m≤2147483648)(hx: ∀H o,K H o→Fp H o q x n)(hn:n≤2147483648):bA (run G) 143 [pv p,x] H (Un K p m):=by
 refine Ev.up (t:=λk=>XH (run G k) k (pv p) x H) ?_ λk=>Si ..
 simp -implicitDefEqProofs only[XH,sS,Nat.reduceAdd];have hen: ∀{m':Nat} {H':aa},J K p m' H'→∃o,Fp H' o q x n:=λhj=>by obtain⟨_,o,_,hk⟩:=hj;exact⟨o,hx _ _ hk⟩
 refine Ev.loop (k:=n) (λk vs Hx=>∃(i m2:Nat) (f:Int) (bF x6 x7 x8 eE fq:Value),J K p m2 Hx∧m2≤m∧i+k=n∧f<n∧vs=[pv p,x,cv i,bF,x6,cv f,x7,x8,eE,fq])
  (λr=>(∃m2,J K p m2 r.2.2∧m2≤m)∧r.1= .exit 0∧∃(f:Int) (x5 bF x6 x7 x8 eE fq:Value),f<n∧r.2.1=[pv p,x,x5,bF,x6,cv f,x7,x8,eE,fq]) ⟨0,m, -1,_,_,_,_,_,_,h,Nat.le_refl _,by omega,by omega,rfl⟩ ?_ ?_
 ·rintro k vs Hx ⟨i,m2,f,bF,x6,x7,x8,eE,fq,hj,hm,hik,hf,rfl⟩;obtain⟨o1,he⟩:=hen hj;have hw:IntKind.i64.wrap ((i:Int)+1)=((i+1:Nat):Int):=by rw[kr (by omega)];omega
  have kN: ∀{m2:Nat} {H2:aa} (f:Int) (bF x6 x7 x8 eE fq:Value),J K p m2 H2→m2≤m→f<n→i<n→Ev (λk=>wm (run G k) k [pv p,x,cv i,bF,x6,cv f,x7,x8,eE,fq] H2) λr=>(r.1= .normal∧∃k',k'<k∧∃(i m2:Nat) (f:Int) (bF x6 x7 x8 eE fq:Value),J K p m2 r.2.2∧m2≤m∧i+k'=n∧f<n∧r.2.1=[pv p,x,cv i,bF,x6,cv f,x7,x8,eE,fq])∨(r.1≠ .normal∧(∃m2,J K p m2 r.2.2∧m2≤m)∧r.1= .exit 0∧∃(f:Int) (x5 bF x6 x7 x8 eE fq:Value),f<n∧r.2.1=[pv p,x,x5,bF,x6,cv f,x7,x8,eE,fq]):=by
   intro m2 H2 f bF x6 x7 x8 eE fq hj hm hf hi;simp -implicitDefEqProofs only[Lq,zo,hw,sS,Nat.reduceAdd];exact Ev.ret (.inl ⟨rfl,k-1,by omega,i+1,m2,f,_,_,_,_,_,_,hj,hm,by omega,hf,rfl⟩)
  simp -implicitDefEqProofs only[Ls,zp,he.len,sS,Nat.reduceAdd];refine Ev.lss (λhq=>?_) (λhq=>?_)<;>try simp -implicitDefEqProofs only[sS,Nat.reduceAdd]
  ·obtain⟨ib,off,b,a0,a1,a2,e1,e2,e3,e4⟩:=he.idx (j:=i) (by omega)
   obtain⟨e5,e6⟩:=e4 _ e2;refine Ev.off hj (λhq=>?_) (λhq=>?_)<;>try simp -implicitDefEqProofs only[e1,aQ,e5,sS,Nat.reduceAdd]
   ·exact Ev.ret (.inr ⟨by simp,⟨_,hj,hm⟩,rfl,_,_,_,_,_,_,_,_,hf,rfl⟩)
   ·repeat' (first| (with_reducible exact kN _ _ _ _ _ _ _ ‹_› (by omega) (by omega) (by omega))| ((with_reducible first|refine Ev.lss (λhq=>?_) (λhq=>?_)|refine Ev.gtr (λhq=>?_) (λhq=>?_)|refine Ev.leq (λhq=>?_) (λhq=>?_)|refine Ev.geq (λhq=>?_) (λhq=>?_)|refine Ev.eql (λhq=>?_) (λhq=>?_)|refine Ev.neq (λhq=>?_) (λhq=>?_)|refine Ev.off ‹_› (λhq=>?_) (λhq=>?_)|refine Ev.az (dj _) λz=>?_ |refine Ev.az (gT _) λz=>?_ |refine Ev.az (cG _ _) λz=>?_ |refine Ev.az (bH _ _ _) λz=>?_ |refine Ev.az (hX _ _) λz=>?_ |refine Ev.az (cX _) λz=>?_ |refine Ev.az (de _ _ _ _) λz=>?_ |refine Ev.num (cE ‹_› _) λz Hz mz hj hm=>?_ |refine Ev.num (eM ‹_› _ _) λz Hz mz hj hm=>?_ |refine Ev.num (eI ‹_› _) λz Hz mz hj hm=>?_ |refine Ev.num (fl ‹_› _) λz Hz mz hj hm=>?_ |refine Ev.num (ea ‹_› _ _) λz Hz mz hj hm=>?_ |refine Ev.num (fX ‹_› _ _ _ _) λz Hz mz hj hm=>?_ |refine Ev.bool (eN ‹_› _ _ _) λz Hz mz hj hm=>?_ |refine Ev.un (cz ‹_› _ _) λz Hz mz hj hm=>?_ |refine Ev.un (fj ‹_› _) λz Hz mz hj hm=>?_ |refine Ev.dq (dc ‹_›) λz zb Hz mz hj hm=>?_ |refine Ev.dq (fW ‹_› _) λz zb Hz mz hj hm=>?_ |refine Ev.jt (df ‹_› _ _) λz zb Hz mz hj hm=>?_ |refine Ev.num (hY _ ‹_› _) λz Hz mz hj hm=>?_ |refine Ev.dq (tM ‹_› (by omega) _ _) λz zb Hz mz hj hm=>?_ |refine Ev.bool (pU ‹_› (by omega) _ _ _ _ _) λz Hz mz hj hm=>?_ |refine Ev.bool (n6 ‹_› (by omega) _ _ _ _) λz Hz mz hj hm=>?_ |refine Ev.bool (qA ‹_› (by omega) _) λz Hz mz hj hm=>?_ |refine Ev.bool (wu ‹_› (by omega) _ _ _) λz Hz mz hj hm=>?_ |refine Ev.wd (cA ‹_› _ _ _ _) λw Hz hj=>?_ |refine Ev.wd (bU ‹_›) λw Hz hj=>?_ |refine Ev.wd (ct ‹_› _ _) λw Hz hj=>?_ |refine Ev.wd (bz ‹_› _ _ _) λw Hz hj=>?_ |refine Ev.nh ‹_› λHz hj=>?_ |refine Ev.ni ‹_› λHz hj=>?_ |refine Ev.mE ‹_› λz=>?_ |refine Ev.br (λhq=>?_) (λhq=>?_))<;>try simp -implicitDefEqProofs only[sS,Nat.reduceAdd]))
  ·exact Ev.ret (.inr ⟨by simp,⟨_,hj,hm⟩,rfl,_,_,_,_,_,_,_,_,hf,rfl⟩)
 ·rintro e vs Hx ⟨⟨m2,hj,hm⟩,he,f,x5,bF,x6,x7,x8,eE,fq,hf,rfl⟩;simp only at he;subst he;simp -implicitDefEqProofs only[Lu,zu,sS,Nat.reduceAdd];refine Ev.geq (λhq=>?_) (λhq=>?_)<;>try simp -implicitDefEqProofs only[sS,Nat.reduceAdd]
  ·refine Ev.off hj (λhq=>?_) (λhq=>?_)<;>try simp -implicitDefEqProofs only[sS,Nat.reduceAdd]
   ·exact Ev.ret ⟨_,hj,hm⟩
   ·obtain⟨fn,rfl⟩: ∃fn:Nat,f=fn:=⟨f.toNat,by omega⟩
    obtain⟨o1,he⟩:=hen hj;obtain⟨ib,off,b,a0,a1,a2,e1,e2,e3,e4⟩:=he.idx (j:=fn) (by omega)
    obtain⟨e5,e6⟩:=e4 _ e2;simp -implicitDefEqProofs only[e1,e6,sS,Nat.reduceAdd];refine Ev.bool (wu hj (by omega) _ _ _) λz Hz mz hj hm=>?_
    try simp -implicitDefEqProofs only[sS,Nat.reduceAdd]
    exact Ev.ret ⟨_,hj,by omega⟩
  ·exact Ev.ret ⟨_,hj,hm⟩
end
end Go.Proofs.YtjgmnoaalbbonaaGreat.Fun
end
