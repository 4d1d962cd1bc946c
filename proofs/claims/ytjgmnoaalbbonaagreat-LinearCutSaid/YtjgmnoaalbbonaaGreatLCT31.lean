/- Texts of the proof of linearCut_holds, put together by a small program of ours (names shortened, spaces taken out). No condition beyond the given statement. -/
import Derived.Test.YtjgmnoaalbbonaaGreatLCT17
import Derived.Test.YtjgmnoaalbbonaaGreatLCT30
import Derived.Test.YtjgmnoaalbbonaaGreatLCT20
set_option linter.unusedVariables false
set_option linter.unusedSimpArgs false
set_option linter.unnecessarySimpa false
noncomputable section
section
namespace Go.Proofs.YtjgmnoaalbbonaaGreat.Fun
open Go Go.RowKit Go.Proofs.YtjgmnoaalbbonaaGreatA.Am
set_option maxRecDepth 10000
section
variable {G:ae} {H H':aa} {o o':aj} {p m c:Nat} {K:aa→aj→Prop} {t:Int} {x:Value} {l:PL}
def KO (K:aa→aj→Prop)(t:Int)(x:Value)(l:PL):aa→aj→Prop:=λH o=>K H o∧gu H o t x l
structure pR (t:Int) (p:Nat):Prop where
 ne:t≠p
 n0:t≠ -50
 n1:t≠ -51
theorem gu.fr {H H':aa}{o o':aj}{q:Int}{x:Value}{l:PL}{ps:List Int}(h:gu H o q x l)(f:Fr H o H' o' ps)(hp:q ∉ ps):gu H' o' q x l:=by
 rcases h with h|⟨i,cap,rest,ty,h1,h2,h3,h4⟩
 ·exact .inl h
 ·exact .inr ⟨i,cap,rest,ty,h1,by rw[f.same i (an h2) (by rw[h4];exact hp)];exact h2,h3,by rw[f.own i (an h2)];exact h4⟩
theorem cI.ko (ht:pR t p)(h:cI [(p:Int),t] K):cI [(p:Int)] (KO K t x l):=λH o H' o' a f=>⟨h H o H' o' a.1 (f.wk (by simp)),gu.fr a.2 f (by simpa using ht.ne)⟩
abbrev GO (K:aa→aj→Prop)(t:Int)(c p m:Nat):Value→aa→Prop:=λv H'=>∃l' m',J (KO K t v l') p m' H'∧m'≤m∧l'.length+m'≤c
section
variable {α:Type} {k:Nat→Value→aa→Option α} {Q:α→Prop} {a b:Int} {T ty:TypeId} {C:Nat→ae} {f:Nat} {args:List Value}
theorem Ev.ac5 (hK:cI [(p:Int),t] K)(ht:pR t p)(h:J (KO K t x l) p m H)(hb:l.length+1≤4294967296)(hk: ∀x' l' H',J (KO K t x' l') p m H'→l'.length=l.length+1→Ev (λn=>k n x' H') Q):
  Ev (λn=>af (cg T 2 16 x (.slice (some ⟨H.length,0,none⟩) 1 1) (H.new ⟨[cv a,cv b],ty,2,false⟩)) (k n)) Q:=by
 obtain⟨hJ,o,hr,Hv,hs⟩:=h;have f1:Fr H o (H.new ⟨[cv a,cv b],ty,2,false⟩) (o.up H.length (-9)) [t]:=(Fr.refl H o [t]).new _ _;have rO:Fr H o (H.new ⟨[cv a,cv b],ty,2,false⟩) (o.up H.length (-9)) []:=(Fr.refl H o []).new _ _;obtain⟨x',H2,o2,e,s2,f2,_⟩:=gu.app (y:=.slice (some ⟨H.length,0,none⟩) 1 1) (m:=[(a,b)]) T (gu.fr hs rO (by simp)) (Src.one (ay)) (by simpa using hb)
 rw[e];have f3:=f1.tr f2;refine hk x' (l++[(a,b)]) H2 ⟨cI.ko ht hK,o2,hr.fr f3 ?_ ?_ ?_,hK _ _ _ _ Hv (f3.wk (by simp)),s2⟩ (by simp)
 ·simp;exact λe=>ht.ne e.symm
 ·simp;exact λe=>ht.n0 e.symm
 ·simp;exact λe=>ht.n1 e.symm
theorem Ev.gat {mm:Nat}(h:bA C f args H (GO K t c p mm))(hk: ∀x l m' H',J (KO K t x l) p m' H'→m'≤mm→l.length+m'≤c→Ev (λn=>k n x H') Q):Ev (λn=>af (C n f args H) (k n)) Q:=
 Ev.call h λv H' hq=>by obtain⟨l,m',h1,h2,h3⟩:=hq;exact hk v l m' H' h1 h2 h3
theorem Ev.aa3 {step:Nat→List Value→aa→aV}{kk:Nat→bJ→List Value→aa→Option α}(I:Value→List Value→Prop)(R:bJ→Value→List Value→Prop){vs:List Value}(hj:J (KO K t x l) p m H)(hc:l.length+m≤c)(hi:I x vs)(h: ∀m1 x l vs H1,J (KO K t x l) p m1 H1→m1≤m→l.length+m1≤c→I x vs→Ev (λn=>step n vs H1) λr=>(r.1= .normal∧∃x' l' m2,J (KO K t x' l') p m2 r.2.2∧m2<m1∧l'.length+m2≤c∧I x' r.2.1)∨(r.1≠ .normal∧∃x' l' m2,J (KO K t x' l') p m2 r.2.2∧m2≤m1∧l'.length+m2≤c∧R r.1 x' r.2.1))(hk: ∀e vs x l m1 H1,J (KO K t x l) p m1 H1→m1≤m→l.length+m1≤c→R e x vs→Ev (λn=>kk n e vs H1) Q):Ev (λn=>cN (iter n (step n) vs H) (kk n)) Q:=by
 refine Ev.loop (k:=m) (λk vs H1=>∃x l,J (KO K t x l) p k H1∧k≤m∧l.length+k≤c∧I x vs) (λr=>∃x l m2,J (KO K t x l) p m2 r.2.2∧m2≤m∧l.length+m2≤c∧R r.1 x r.2.1) ⟨x,l,hj,Nat.le_refl _,hc,hi⟩ ?_ ?_
 ·rintro k vs H1 ⟨x,l,h1,h2,h3,h4⟩;refine Ev.mono (h k x l vs H1 h1 h2 h3 h4) ?_;rintro⟨e,iM,H2⟩ (⟨g1,x',l',m2,g2,g3,g4,g5⟩|⟨g1,x',l',m2,g2,g3,g4,g5⟩)
  ·exact .inl ⟨g1,m2,g3,x',l',g2,by omega,g4,g5⟩
  ·exact .inr ⟨g1,x',l',m2,g2,by omega,g4,g5⟩
 ·rintro e vs H1 ⟨x,l,m2,g2,g3,g4,g5⟩;exact hk e vs x l m2 H1 g2 g3 g4 g5
end
theorem zN (a b:Int):aE Tryz.prog 42 [(0,cv a),(1,cv b)]=some (.agg #[cv a,cv b]):=by kernel_rfl
theorem Hj (a b:Int)(H:aa):au Tryz.prog 43 1 [(0,.agg #[cv a,cv b])] H=some (.slice (some ⟨H.length,0,none⟩) 1 1,H.new ⟨[cv a,cv b],42,2,false⟩):=by kernel_rfl
abbrev BD (K:aa→aj→Prop)(t:Int)(c p m1:Nat)(I:Value→List Value→Prop)(R:bJ→Value→List Value→Prop):bJ×List Value×aa→Prop:=λr=>(r.1= .normal∧∃x' l' m2,J (KO K t x' l') p m2 r.2.2∧m2<m1∧l'.length+m2≤c∧I x' r.2.1)∨(r.1≠ .normal∧∃x' l' m2,J (KO K t x' l') p m2 r.2.2∧m2≤m1∧l'.length+m2≤c∧R r.1 x' r.2.1)
abbrev gI (p:Nat)(a b d dd:Int)(x:Value)(vs:List Value):Prop:=∃(i r:Int) (aG cY aP dN dO eJ aT aX aU jh ic bn iN:Value),vs=[pv p,cv a,cv b,cv d,x,aG,cv i,cv dd,cv r,cY,aP,dN,dO,eJ,aT,aX,aU,jh,ic,bn,iN]
abbrev gR (p:Nat)(a b d dd:Int)(e:bJ)(x:Value)(vs:List Value):Prop:=e= .exit 0∧∃(aG aJ aK cY aP dN dO eJ aT aX aU jh ic bn iN:Value),vs=[pv p,cv a,cv b,cv d,x,aG,aJ,cv dd,aK,cY,aP,dN,dO,eJ,aT,aX,aU,jh,ic,bn,iN]
theorem Pu (ih': ∀{m':Nat} {x:Value} {l:PL} {H':aa},J (KO K t x l) p m' H'→m'<m→l.length+m'≤c→∀a b d,bA (run G) 139 [pv p,cv a,cv b,cv d,x] H' (GO K t c p (m'-1)))(hK:cI [(p:Int),t] K)(ht:pR t p)(hc:c≤2147483648){m1:Nat}(hj:J (KO K t x l) p m1 H)(hm:m1≤m)(hl:l.length+m1≤c)(a b d dd i r:Int)(aG cY aP dN dO eJ aT aX aU jh ic bn iN:Value):
  Ev (λn=>vV (run G n) n [pv p,cv a,cv b,cv d,x,aG,cv i,cv dd,cv r,cY,aP,dN,dO,eJ,aT,aX,aU,jh,ic,bn,iN] H) (BD K t c p m1 (gI p a b d dd) (gR p a b d dd)):=by
 have L2: ∀{x:Value} {l:PL} {m2:Nat} {H2:aa},J (KO K t x l) p m2 H2→m2<m1→l.length+m2≤c→∀(i r:Int) (aG cY aP dN dO eJ aT aX aU jh ic bn iN:Value),Ev (λn=>qh (run G n) n [pv p,cv a,cv b,cv d,x,aG,cv i,cv dd,cv r,cY,aP,dN,dO,eJ,aT,aX,aU,jh,ic,bn,iN] H2) (BD K t c p m1 (gI p a b d dd) (gR p a b d dd)):=by
  intro x l m2 H2 hj hm hl i r aG cY aP dN dO eJ aT aX aU jh ic bn iN;simp -implicitDefEqProofs only[Km,yi,sS,Nat.reduceAdd];exact Ev.ret (.inl ⟨rfl,_,_,_,hj,hm,hl,_,_,_,_,_,_,_,_,_,_,_,_,_,_,_,rfl⟩)
 have L3: ∀{x:Value} {l:PL} {m2:Nat} {H2:aa},J (KO K t x l) p m2 H2→m2<m1→l.length+m2≤c→∀(i r:Int) (aG cY aP dN dO eJ aT aX aU jh ic bn iN:Value),Ev (λn=>sZ (run G n) n [pv p,cv a,cv b,cv d,x,aG,cv i,cv dd,cv r,cY,aP,dN,dO,eJ,aT,aX,aU,jh,ic,bn,iN] H2) (BD K t c p m1 (gI p a b d dd) (gR p a b d dd)):=by
  intro x l m2 H2 hj hm hl i r aG cY aP dN dO eJ aT aX aU jh ic bn iN;simp -implicitDefEqProofs only[Kn,yj,sS,Nat.reduceAdd];exact L2 hj hm hl ..
 have L6: ∀{x:Value} {l:PL} {m2:Nat} {H2:aa},J (KO K t x l) p m2 H2→m2<m1→l.length+m2≤c→∀(s:Int) (i r:Int) (aG cY aP dN dO eJ aT aX aU jh ic iN:Value),Ev (λn=>s7 (run G n) n [pv p,cv a,cv b,cv d,x,aG,cv i,cv dd,cv r,cY,aP,dN,dO,eJ,aT,aX,aU,jh,ic,cv s,iN] H2) (BD K t c p m1 (gI p a b d dd) (gR p a b d dd)):=by
  intro x l m2 H2 hj hm hl s i r aG cY aP dN dO eJ aT aX aU jh ic iN;simp -implicitDefEqProofs only[Ko,yl,sS,Nat.reduceAdd];exact L2 hj hm hl ..
 have L5: ∀{x:Value} {l:PL} {m2:Nat} {H2:aa},J (KO K t x l) p m2 H2→m2<m1→l.length+m2≤c→∀(y:Int) (i r:Int) (aG cY aP dN dO eJ aX aU jh ic bn iN:Value),Ev (λn=>s8 (run G n) n [pv p,cv a,cv b,cv d,x,aG,cv i,cv dd,cv r,cY,aP,dN,dO,eJ,cv y,aX,aU,jh,ic,bn,iN] H2) (BD K t c p m1 (gI p a b d dd) (gR p a b d dd)):=by
  intro x l m2 H2 hj hm hl y i r aG cY aP dN dO eJ aX aU jh ic bn iN;simp -implicitDefEqProofs only[Kp,ym,sS,Nat.reduceAdd];repeat' (first| (with_reducible exact L6 ‹_› (by omega) (by omega) ..)| (with_reducible refine Ev.gat (ih' ‹_› (by omega) (by omega) _ _ _) λx' l' mz Hz hj hm hl=>?_ <;>try simp -implicitDefEqProofs only[sS,Nat.reduceAdd])| ((with_reducible first|refine Ev.lss (λhq=>?_) (λhq=>?_)|refine Ev.gtr (λhq=>?_) (λhq=>?_)|refine Ev.leq (λhq=>?_) (λhq=>?_)|refine Ev.geq (λhq=>?_) (λhq=>?_)|refine Ev.eql (λhq=>?_) (λhq=>?_)|refine Ev.neq (λhq=>?_) (λhq=>?_)|refine Ev.off ‹_› (λhq=>?_) (λhq=>?_)|refine Ev.az (dj _) λz=>?_ |refine Ev.az (gT _) λz=>?_ |refine Ev.az (cG _ _) λz=>?_ |refine Ev.az (bH _ _ _) λz=>?_ |refine Ev.az (hX _ _) λz=>?_ |refine Ev.az (cX _) λz=>?_ |refine Ev.az (de _ _ _ _) λz=>?_ |refine Ev.num (cE ‹_› _) λz Hz mz hj hm=>?_ |refine Ev.num (eM ‹_› _ _) λz Hz mz hj hm=>?_ |refine Ev.num (eI ‹_› _) λz Hz mz hj hm=>?_ |refine Ev.num (fl ‹_› _) λz Hz mz hj hm=>?_ |refine Ev.num (ea ‹_› _ _) λz Hz mz hj hm=>?_ |refine Ev.num (fX ‹_› _ _ _ _) λz Hz mz hj hm=>?_ |refine Ev.bool (eN ‹_› _ _ _) λz Hz mz hj hm=>?_ |refine Ev.un (cz ‹_› _ _) λz Hz mz hj hm=>?_ |refine Ev.un (fj ‹_› _) λz Hz mz hj hm=>?_ |refine Ev.dq (dc ‹_›) λz zb Hz mz hj hm=>?_ |refine Ev.dq (fW ‹_› _) λz zb Hz mz hj hm=>?_ |refine Ev.jt (df ‹_› _ _) λz zb Hz mz hj hm=>?_ |refine Ev.num (hY _ ‹_› _) λz Hz mz hj hm=>?_ |refine Ev.wd (cA ‹_› _ _ _ _) λw Hz hj=>?_ |refine Ev.wd (bU ‹_›) λw Hz hj=>?_ |refine Ev.wd (ct ‹_› _ _) λw Hz hj=>?_ |refine Ev.wd (bz ‹_› _ _ _) λw Hz hj=>?_ |refine Ev.nh ‹_› λHz hj=>?_ |refine Ev.ni ‹_› λHz hj=>?_ |refine Ev.mE ‹_› λz=>?_ |refine Ev.br (λhq=>?_) (λhq=>?_))<;>try simp -implicitDefEqProofs only[sS,Nat.reduceAdd]))
 have L4: ∀{x:Value} {l:PL} {m2:Nat} {H2:aa},J (KO K t x l) p m2 H2→m2<m1→l.length+m2≤c→∀(w y:Int) (q:Bool) (i r:Int) (aG cY dN dO eJ aX aU ic bn iN:Value),Ev (λn=>s9 (run G n) n [pv p,cv a,cv b,cv d,x,aG,cv i,cv dd,cv r,cY,cv w,dN,dO,eJ,cv y,aX,aU,.bool q,ic,bn,iN] H2) (BD K t c p m1 (gI p a b d dd) (gR p a b d dd)):=by
  intro x l m2 H2 hj hm hl w y q i r aG cY dN dO eJ aX aU ic bn iN;simp -implicitDefEqProofs only[Kq,yo,sS,Nat.reduceAdd];cases q<;>simp -implicitDefEqProofs only[sS,Nat.reduceAdd]
  ·exact L2 hj hm hl ..
  repeat' (first| (with_reducible exact L5 ‹_› (by omega) (by omega) ..)| ((with_reducible first|refine Ev.lss (λhq=>?_) (λhq=>?_)|refine Ev.gtr (λhq=>?_) (λhq=>?_)|refine Ev.leq (λhq=>?_) (λhq=>?_)|refine Ev.geq (λhq=>?_) (λhq=>?_)|refine Ev.eql (λhq=>?_) (λhq=>?_)|refine Ev.neq (λhq=>?_) (λhq=>?_)|refine Ev.off ‹_› (λhq=>?_) (λhq=>?_)|refine Ev.az (dj _) λz=>?_ |refine Ev.az (gT _) λz=>?_ |refine Ev.az (cG _ _) λz=>?_ |refine Ev.az (bH _ _ _) λz=>?_ |refine Ev.az (hX _ _) λz=>?_ |refine Ev.az (cX _) λz=>?_ |refine Ev.az (de _ _ _ _) λz=>?_ |refine Ev.num (cE ‹_› _) λz Hz mz hj hm=>?_ |refine Ev.num (eM ‹_› _ _) λz Hz mz hj hm=>?_ |refine Ev.num (eI ‹_› _) λz Hz mz hj hm=>?_ |refine Ev.num (fl ‹_› _) λz Hz mz hj hm=>?_ |refine Ev.num (ea ‹_› _ _) λz Hz mz hj hm=>?_ |refine Ev.num (fX ‹_› _ _ _ _) λz Hz mz hj hm=>?_ |refine Ev.bool (eN ‹_› _ _ _) λz Hz mz hj hm=>?_ |refine Ev.un (cz ‹_› _ _) λz Hz mz hj hm=>?_ |refine Ev.un (fj ‹_› _) λz Hz mz hj hm=>?_ |refine Ev.dq (dc ‹_›) λz zb Hz mz hj hm=>?_ |refine Ev.dq (fW ‹_› _) λz zb Hz mz hj hm=>?_ |refine Ev.jt (df ‹_› _ _) λz zb Hz mz hj hm=>?_ |refine Ev.num (hY _ ‹_› _) λz Hz mz hj hm=>?_ |refine Ev.wd (cA ‹_› _ _ _ _) λw Hz hj=>?_ |refine Ev.wd (bU ‹_›) λw Hz hj=>?_ |refine Ev.wd (ct ‹_› _ _) λw Hz hj=>?_ |refine Ev.wd (bz ‹_› _ _ _) λw Hz hj=>?_ |refine Ev.nh ‹_› λHz hj=>?_ |refine Ev.ni ‹_› λHz hj=>?_ |refine Ev.mE ‹_› λz=>?_ |refine Ev.br (λhq=>?_) (λhq=>?_))<;>try simp -implicitDefEqProofs only[sS,Nat.reduceAdd]))
 simp -implicitDefEqProofs only[Kr,yp,sS,Nat.reduceAdd];repeat' (first| (with_reducible exact L3 ‹_› (by omega) (by omega) ..)| (with_reducible exact L4 ‹_› (by omega) (by omega) ..)| ((with_reducible first|refine Ev.lss (λhq=>?_) (λhq=>?_)|refine Ev.gtr (λhq=>?_) (λhq=>?_)|refine Ev.leq (λhq=>?_) (λhq=>?_)|refine Ev.geq (λhq=>?_) (λhq=>?_)|refine Ev.eql (λhq=>?_) (λhq=>?_)|refine Ev.neq (λhq=>?_) (λhq=>?_)|refine Ev.off ‹_› (λhq=>?_) (λhq=>?_)|refine Ev.az (dj _) λz=>?_ |refine Ev.az (gT _) λz=>?_ |refine Ev.az (cG _ _) λz=>?_ |refine Ev.az (bH _ _ _) λz=>?_ |refine Ev.az (hX _ _) λz=>?_ |refine Ev.az (cX _) λz=>?_ |refine Ev.az (de _ _ _ _) λz=>?_ |refine Ev.num (cE ‹_› _) λz Hz mz hj hm=>?_ |refine Ev.num (eM ‹_› _ _) λz Hz mz hj hm=>?_ |refine Ev.num (eI ‹_› _) λz Hz mz hj hm=>?_ |refine Ev.num (fl ‹_› _) λz Hz mz hj hm=>?_ |refine Ev.num (ea ‹_› _ _) λz Hz mz hj hm=>?_ |refine Ev.num (fX ‹_› _ _ _ _) λz Hz mz hj hm=>?_ |refine Ev.bool (eN ‹_› _ _ _) λz Hz mz hj hm=>?_ |refine Ev.un (cz ‹_› _ _) λz Hz mz hj hm=>?_ |refine Ev.un (fj ‹_› _) λz Hz mz hj hm=>?_ |refine Ev.dq (dc ‹_›) λz zb Hz mz hj hm=>?_ |refine Ev.dq (fW ‹_› _) λz zb Hz mz hj hm=>?_ |refine Ev.jt (df ‹_› _ _) λz zb Hz mz hj hm=>?_ |refine Ev.num (hY _ ‹_› _) λz Hz mz hj hm=>?_ |refine Ev.wd (cA ‹_› _ _ _ _) λw Hz hj=>?_ |refine Ev.wd (bU ‹_›) λw Hz hj=>?_ |refine Ev.wd (ct ‹_› _ _) λw Hz hj=>?_ |refine Ev.wd (bz ‹_› _ _ _) λw Hz hj=>?_ |refine Ev.nh ‹_› λHz hj=>?_ |refine Ev.ni ‹_› λHz hj=>?_ |refine Ev.mE ‹_› λz=>?_ |refine Ev.br (λhq=>?_) (λhq=>?_))<;>try simp -implicitDefEqProofs only[sS,Nat.reduceAdd])| (with_reducible exact Ev.ret (.inr ⟨by simp,_,_,_,by assumption,by omega,by omega,rfl,_,_,_,_,_,_,_,_,_,_,_,_,_,_,_,rfl⟩))| (simp -implicitDefEqProofs only[zN,Hj,sS,Nat.reduceAdd];done)| (with_reducible refine Ev.ac5 hK ht ‹_› (by omega) λx' l' Hz hj hl=>?_ <;>try simp -implicitDefEqProofs only[sS,Nat.reduceAdd])| (simp -implicitDefEqProofs only[zN,Hj,sS,Nat.reduceAdd]))
theorem Pv (hK:cI [(p:Int),t] K)(ht:pR t p)(hc:c≤2147483648): ∀(m:Nat) {x:Value} {l:PL} {H:aa},J (KO K t x l) p m H→l.length+m≤c→∀a b d,bA (run G) 139 [pv p,cv a,cv b,cv d,x] H (GO K t c p (m-1)):=by
 intro m;induction m using Nat.strongRecOn with
 |ind m ih=>
 intro x l H h hl a b d;have ih': ∀{m':Nat} {x:Value} {l:PL} {H':aa},J (KO K t x l) p m' H'→m'<m→l.length+m'≤c→∀a b d,bA (run G) 139 [pv p,cv a,cv b,cv d,x] H' (GO K t c p (m'-1)):=λhj hm hl a b d=>ih _ hm hj hl a b d
 refine Ev.up (t:=λn=>Wb (run G n) n (pv p) (cv a) (cv b) (cv d) x H) ?_ λn=>Rn ..
 simp -implicitDefEqProofs only[Wb,sS,Nat.reduceAdd];refine Ev.num (cE h a) λdd H1 m1 kc Jd=>?_
 refine Ev.aa3 (K:=K) (t:=t) (p:=p) (m:=m1) (c:=c) (gI p a b d dd) (gR p a b d dd) kc (by omega) ⟨_,_,_,_,_,_,_,_,_,_,_,_,_,_,_,rfl⟩ ?_ ?_
 ·rintro m1 x l vs H2 hj hm hl ⟨i,r,aG,cY,aP,dN,dO,eJ,aT,aX,aU,jh,ic,bn,iN,rfl⟩;exact Pu ih' hK ht hc hj (by omega) hl ..
 ·rintro e vs x l m2 H2 hj hm hl ⟨rfl,aG,aJ,aK,cY,aP,dN,dO,eJ,aT,aX,aU,jh,ic,bn,iN,rfl⟩;simp -implicitDefEqProofs only[Kl,yh,sS,Nat.reduceAdd];exact Ev.ret ⟨l,m2,hj,by omega,hl⟩
theorem BE (h:J K p m H)(hm:m≤2147483648)(a b d:Int):bA (run G) 139 [pv p,cv a,cv b,cv d,.slice none 0 0] H λv H'=>∃t l m',t≠(p:Int)∧J (λH o=>K H o∧gE H o t v l) p m' H'∧m'≤m-1∧l.length+m'≤m:=by
 obtain⟨hK,o,hr,hk⟩:=h;obtain⟨t,uJ,Ps⟩:=jq o H.length;have ht:pR t p:=⟨by omega,by omega,by omega⟩
 have hB:cI [(p:Int),t] λH' o'=>Fr H o H' o' [t,(p:Int)]:=cI.base (by simp)
 refine bA.mono (Pv (c:=m) hB ht hm m (x:=.slice none 0 0) (l:=[]) ⟨cI.ko ht hB,o,hr,Fr.refl _ _ _,.inl ⟨rfl,rfl⟩⟩ (by simp) a b d) ?_
 rintro v H' ⟨l,m',⟨_,o',Us,hf,hs⟩,h1,h2⟩;refine⟨t,l,m',ht.ne,⟨hK.and (cI.kJ (by simpa using ht.ne)),o',Us,hK _ _ _ _ hk (mh hf λi hi=>by have:=Ps i hi;omega),hs.r⟩,h1,h2⟩
end
section
variable {G:ae} {H H':aa} {o o':aj} {p m c:Nat} {K:aa→aj→Prop} {t:Int} {x:Value} {l:PL}
theorem LQ {s:Value}{cs:List Int}(T ty:TypeId)(a:Int)(hs:qd H o t s cs)(hb:cs.length+1≤4294967296):
  ∃s' H2 o2,cg T 1 8 s (.slice (some ⟨H.length,0,none⟩) 1 1) (H.new ⟨[cv a],ty,1,false⟩)=some (s',H2)∧qd H2 o2 t s' (cs++[a])∧Fr H o H2 o2 [t]:=by
 have f1:Fr H o (H.new ⟨[cv a],ty,1,false⟩) (o.up H.length (-9)) [t]:=(Fr.refl H o [t]).new _ _;have rO:Fr H o (H.new ⟨[cv a],ty,1,false⟩) (o.up H.length (-9)) []:=(Fr.refl H o []).new _ _;obtain⟨s',H2,o2,e,s2,f2,_⟩:=lD (x:=.slice (some ⟨H.length,0,none⟩) 1 1) (l:=[a]) T (hs.fr rO (by simp)) (.inr ⟨H.length,0,1,rfl,λ_=>⟨_,ay,rfl,by simp,by simp⟩⟩) (by simpa using hb)
 exact⟨s',H2,o2,e,s2,f1.tr f2⟩
structure DG (B:aa) (b:aj) (p:Nat) (t u:Int) (x:Value) (lx:List Int) (y:Value) (ly:List Int) (H:aa) (o:aj):Prop where
 fr:Fr B b H o [(p:Int)]
 q:qd H o t x lx
 c:qd H o u y ly
structure Two (B:aa) (b:aj) (p:Nat) (t u:Int):Prop where
 at1:pR t p
 at2:pR u p
 ne:t≠u
 ft: ∀i,i<B.length→b i≠t
 fu: ∀i,i<B.length→b i≠u
theorem Pw (B:aa)(b:aj)(p:Nat): ∃t u,Two B b p t u:=by
 obtain⟨t,h1,h2⟩:=jq b B.length;exact⟨t,t-1,⟨by omega,by omega,by omega⟩,⟨by omega,by omega,by omega⟩,by omega,λi hi=>by have:=h2 i hi;omega,λi hi=>by have:=h2 i hi;omega⟩
section
variable {B:aa} {b:aj} {u:Int} {y:Value} {lx ly:List Int}
theorem DG.iK (h2:Two B b p t u):cI [(p:Int)] (DG B b p t u x lx y ly):=λH o H' o' h f=>⟨h.fr.tr f,h.q.fr f (by simpa using h2.at1.ne),h.c.fr f (by simpa using h2.at2.ne)⟩
variable {α:Type} {k:Nat→Value→aa→Option α} {Q:α→Prop} {a:Int} {T ty:TypeId}
theorem Ev.ac6 (h2:Two B b p t u)(h:J (DG B b p t u x lx y ly) p m H)(hb:lx.length+1≤4294967296)(hk: ∀x' lx' H',J (DG B b p t u x' lx' y ly) p m H'→lx'.length=lx.length+1→Ev (λn=>k n x' H') Q):
  Ev (λn=>af (cg T 1 8 x (.slice (some ⟨H.length,0,none⟩) 1 1) (H.new ⟨[cv a],ty,1,false⟩)) (k n)) Q:=by
 obtain⟨_,o,hr,hf,hx,hy⟩:=h;obtain⟨s',H2,o2,e,s2,f2⟩:=LQ T ty a hx hb;rw[e];refine hk s' _ H2 ⟨DG.iK h2,o2,hr.fr f2 ?_ ?_ ?_,mh (hf.trans f2 (rs:=[t,(p:Int)]) (by simp) (by simp)) h2.ft,s2,hy.fr f2 ?_⟩ (by simp)
 ·simp;exact λe=>h2.at1.ne e.symm
 ·simp;exact λe=>h2.at1.n0 e.symm
 ·simp;exact λe=>h2.at1.n1 e.symm
 ·simp;exact λe=>h2.ne e.symm
theorem Ev.ac7 (h2:Two B b p t u)(h:J (DG B b p t u x lx y ly) p m H)(hb:ly.length+1≤4294967296)(hk: ∀y' ly' H',J (DG B b p t u x lx y' ly') p m H'→ly'.length=ly.length+1→Ev (λn=>k n y' H') Q):
  Ev (λn=>af (cg T 1 8 y (.slice (some ⟨H.length,0,none⟩) 1 1) (H.new ⟨[cv a],ty,1,false⟩)) (k n)) Q:=by
 obtain⟨_,o,hr,hf,hx,hy⟩:=h;obtain⟨s',H2,o2,e,s2,f2⟩:=LQ T ty a hy hb;rw[e];refine hk s' _ H2 ⟨DG.iK h2,o2,hr.fr f2 ?_ ?_ ?_,mh (hf.trans f2 (rs:=[u,(p:Int)]) (by simp) (by simp)) h2.fu,hx.fr f2 ?_,s2⟩ (by simp)
 ·simp;exact λe=>h2.at2.ne e.symm
 ·simp;exact λe=>h2.at2.n0 e.symm
 ·simp;exact λe=>h2.at2.n1 e.symm
 ·simp;exact λe=>h2.ne e
end
theorem Px (n a:Int):cV n (some (cv a))=some a:=rfl
theorem Py: ∀(N:Nat) {K:aa→aj→Prop} {H:aa} {m:Nat} {x:Value} {L:PL} {q:Int},L.length=N→N≤2147483648→J K p m H→q≠(p:Int)→(∀H o,K H o→gE H o q x L)→bA (run G) 140 [pv p,x] H (Fl K p m):=by
 intro N;induction N using Nat.strongRecOn with
 |ind N ih=>
 intro K H m x L q hN hN2 h hq hx;refine Ev.up (t:=λn=>Xb (run G n) n (pv p) x H) ?_ λn=>RU ..
 obtain⟨hK,o,hr,hk⟩:=id h;have hs:=hx _ _ hk;simp -implicitDefEqProofs only[Xb,hs.len,sS,Nat.reduceAdd];refine Ev.eql (λh0=>?_) (λh0=>?_)<;>try simp -implicitDefEqProofs only[sS,Nat.reduceAdd]
 ·repeat' (first|exact Ev.ret ⟨_,_,rfl,_,by assumption,by omega⟩| ((with_reducible first|refine Ev.lss (λhq=>?_) (λhq=>?_)|refine Ev.gtr (λhq=>?_) (λhq=>?_)|refine Ev.leq (λhq=>?_) (λhq=>?_)|refine Ev.geq (λhq=>?_) (λhq=>?_)|refine Ev.eql (λhq=>?_) (λhq=>?_)|refine Ev.neq (λhq=>?_) (λhq=>?_)|refine Ev.off ‹_› (λhq=>?_) (λhq=>?_)|refine Ev.az (dj _) λz=>?_ |refine Ev.az (gT _) λz=>?_ |refine Ev.az (cG _ _) λz=>?_ |refine Ev.az (bH _ _ _) λz=>?_ |refine Ev.az (hX _ _) λz=>?_ |refine Ev.az (cX _) λz=>?_ |refine Ev.az (de _ _ _ _) λz=>?_ |refine Ev.num (cE ‹_› _) λz Hz mz hj hm=>?_ |refine Ev.num (eM ‹_› _ _) λz Hz mz hj hm=>?_ |refine Ev.num (eI ‹_› _) λz Hz mz hj hm=>?_ |refine Ev.num (fl ‹_› _) λz Hz mz hj hm=>?_ |refine Ev.num (ea ‹_› _ _) λz Hz mz hj hm=>?_ |refine Ev.num (fX ‹_› _ _ _ _) λz Hz mz hj hm=>?_ |refine Ev.bool (eN ‹_› _ _ _) λz Hz mz hj hm=>?_ |refine Ev.un (cz ‹_› _ _) λz Hz mz hj hm=>?_ |refine Ev.un (fj ‹_› _) λz Hz mz hj hm=>?_ |refine Ev.dq (dc ‹_›) λz zb Hz mz hj hm=>?_ |refine Ev.dq (fW ‹_› _) λz zb Hz mz hj hm=>?_ |refine Ev.jt (df ‹_› _ _) λz zb Hz mz hj hm=>?_ |refine Ev.num (hY _ ‹_› _) λz Hz mz hj hm=>?_ |refine Ev.wd (cA ‹_› _ _ _ _) λw Hz hj=>?_ |refine Ev.wd (bU ‹_›) λw Hz hj=>?_ |refine Ev.wd (ct ‹_› _ _) λw Hz hj=>?_ |refine Ev.wd (bz ‹_› _ _ _) λw Hz hj=>?_ |refine Ev.nh ‹_› λHz hj=>?_ |refine Ev.ni ‹_› λHz hj=>?_ |refine Ev.mE ‹_› λz=>?_ |refine Ev.br (λhq=>?_) (λhq=>?_))<;>try simp -implicitDefEqProofs only[sS,Nat.reduceAdd]))
 refine Ev.eql (λh1=>?_) (λh1=>?_)<;>try simp -implicitDefEqProofs only[sS,Nat.reduceAdd]
 ·obtain⟨i,off,b,e1,e2,e3,e4⟩:=hs.idx (j:=0) (by omega)
  obtain⟨e5,e6,_⟩:=e4 H e2;simp only[Int.natCast_zero] at e1;simp -implicitDefEqProofs only[e1,aQ,Nat.add_zero,e5,e6,sS,Nat.reduceAdd];repeat' (first|exact Ev.ret ⟨_,_,rfl,_,by assumption,by omega⟩| ((with_reducible first|refine Ev.lss (λhq=>?_) (λhq=>?_)|refine Ev.gtr (λhq=>?_) (λhq=>?_)|refine Ev.leq (λhq=>?_) (λhq=>?_)|refine Ev.geq (λhq=>?_) (λhq=>?_)|refine Ev.eql (λhq=>?_) (λhq=>?_)|refine Ev.neq (λhq=>?_) (λhq=>?_)|refine Ev.off ‹_› (λhq=>?_) (λhq=>?_)|refine Ev.az (dj _) λz=>?_ |refine Ev.az (gT _) λz=>?_ |refine Ev.az (cG _ _) λz=>?_ |refine Ev.az (bH _ _ _) λz=>?_ |refine Ev.az (hX _ _) λz=>?_ |refine Ev.az (cX _) λz=>?_ |refine Ev.az (de _ _ _ _) λz=>?_ |refine Ev.num (cE ‹_› _) λz Hz mz hj hm=>?_ |refine Ev.num (eM ‹_› _ _) λz Hz mz hj hm=>?_ |refine Ev.num (eI ‹_› _) λz Hz mz hj hm=>?_ |refine Ev.num (fl ‹_› _) λz Hz mz hj hm=>?_ |refine Ev.num (ea ‹_› _ _) λz Hz mz hj hm=>?_ |refine Ev.num (fX ‹_› _ _ _ _) λz Hz mz hj hm=>?_ |refine Ev.bool (eN ‹_› _ _ _) λz Hz mz hj hm=>?_ |refine Ev.un (cz ‹_› _ _) λz Hz mz hj hm=>?_ |refine Ev.un (fj ‹_› _) λz Hz mz hj hm=>?_ |refine Ev.dq (dc ‹_›) λz zb Hz mz hj hm=>?_ |refine Ev.dq (fW ‹_› _) λz zb Hz mz hj hm=>?_ |refine Ev.jt (df ‹_› _ _) λz zb Hz mz hj hm=>?_ |refine Ev.num (hY _ ‹_› _) λz Hz mz hj hm=>?_ |refine Ev.wd (cA ‹_› _ _ _ _) λw Hz hj=>?_ |refine Ev.wd (bU ‹_›) λw Hz hj=>?_ |refine Ev.wd (ct ‹_› _ _) λw Hz hj=>?_ |refine Ev.wd (bz ‹_› _ _ _) λw Hz hj=>?_ |refine Ev.nh ‹_› λHz hj=>?_ |refine Ev.ni ‹_› λHz hj=>?_ |refine Ev.mE ‹_› λz=>?_ |refine Ev.br (λhq=>?_) (λhq=>?_))<;>try simp -implicitDefEqProofs only[sS,Nat.reduceAdd]))
 obtain⟨t,u,h2⟩:=Pw H o p;have hd:=tL L.length;have jr: ∀{xq xc:Value} {lq lc:List Int} {m':Nat} {H':aa},J (DG H o p t u xq lq xc lc) p m' H'→J K p m' H':=λhj=>hj.mono hK λo' hg=>hK _ _ _ _ hk hg.fr
 have oz: ∀(H':aa) (o':aj),Fr H o H' o' [(p:Int)]→gE H' o' q x L:=λH' o' f=>hs.fr f (by simpa using hq)
 have QG:J (DG H o p t u (.slice none 0 0) [] (.slice none 0 0) []) p m H:=⟨DG.iK h2,o,hr,Fr.refl _ _ _,.inl ⟨rfl,rfl⟩,.inl ⟨rfl,rfl⟩⟩;refine Ev.loop (k:=(du L.length).toNat) (λk vs H1=>∃(i m1:Nat) (xq xc:Value) (lq lc:List Int) (x4 x5 bG x7 x8 cM x9 aG fq iG aP aX rH aT aU bn:Value),J (DG H o p t u xq lq xc lc) p m1 H1∧m1≤m∧lq.length≤i∧lc.length≤i∧(i:Int)+k=du L.length∧
   vs=[pv p,x,x4,x5,cv L.length,bG,x7,x8,cM,x9,aG,cv i,fq,iG,xq,aP,aX,rH,xc,aT,aU,bn])
  (λr=>(∃(m1:Nat) (xq xc:Value) (lq lc:List Int),J (DG H o p t u xq lq xc lc) p m1 r.2.2∧m1≤m∧lq.length≤128∧lc.length≤128∧r.2.1[14]? =some xq∧r.2.1[18]? =some xc)∧((r.1= .exit 0)∨(r.1= .ret∧r.2.1[2]? =some (cv 0)∧r.2.1[3]? =some (.bool false)))∧∃(x4 x5 bG x7 x8 cM x9 aG aJ fq iG aN aP aX rH aK aT aU bn:Value),r.2.1=[pv p,x,x4,x5,cv L.length,bG,x7,x8,cM,x9,aG,aJ,fq,iG,aN,aP,aX,rH,aK,aT,aU,bn])
  ⟨0,m,_,_,[],[],_,_,_,_,_,_,_,_,_,_,_,_,_,_,_,_,QG,by omega,by simp,by simp,by omega,rfl⟩ ?_ ?_
 ·rintro k vs H1 ⟨i,m1,xq,xc,lq,lc,x4,x5,bG,x7,x8,cM,x9,aG,fq,iG,aP,aX,rH,aT,aU,bn,hj,hm,hlq,Ja,hik,rfl⟩;simp -implicitDefEqProofs only[KP,yN,sS,Nat.reduceAdd];refine Ev.call (pQ _) ?_;rintro v TF ⟨rfl,rfl⟩
  try simp -implicitDefEqProofs only[sS,Nat.reduceAdd]
  refine Ev.lss (λHB=>?_) (λHB=>?_)<;>try simp -implicitDefEqProofs only[sS,Nat.reduceAdd]
  ·refine Ev.call (Pt _ _) ?_;rintro v TF ⟨rfl,rfl⟩
   try simp -implicitDefEqProofs only[sS,Nat.reduceAdd]
   have M9:2≤(L.length:Int)∧(L.length:Int)≤16384:=by
    rcases Int.lt_or_le 16384 (L.length:Int) with g2|g2
    ·have:=pP (n:=(L.length:Int)) (.inr g2);omega
    ·exact⟨by omega,g2⟩
   have nA:=zK M9 (i:=i) (by omega)
   have hpt:=SH M9 (i:=i) HB;have zV:=Fo L.length i;have hfe:BC L.length i=fy L.length i:=by rw[BC,if_neg (by omega),Int.toNat_natCast]
   have hw:IntKind.i64.wrap ((i:Int)+1)=((i+1:Nat):Int):=by rw[kr (by omega)];omega
   have Ag:IntKind.i64.wrap (fy L.length i+jA L.length i)=fy L.length i+jA L.length i:=kr (by omega)
   obtain⟨at_,TV⟩: ∃z:Nat,(z:Int)=fy L.length i:=⟨(fy L.length i).toNat,by omega⟩
   obtain⟨to_,JK⟩: ∃z:Nat,(z:Int)=fy L.length i+jA L.length i:=⟨(fy L.length i+jA L.length i).toNat,by omega⟩
   rw[hfe];have J2: ∀{m1:Nat} {xq xc:Value} {lq lc:List Int} {H1:aa} (x4 x5 bG x7 x8 cM x9 aG fq iG aX rH aT aU bn:Value),J (DG H o p t u xq lq xc lc) p m1 H1→m1≤m→lq.length≤i+1→lc.length≤i→Ev (λn=>vZ (run G n) n [pv p,x,x4,x5,cv L.length,bG,x7,x8,cM,x9,aG,cv i,fq,iG,xq,cv (fy L.length i),aX,rH,xc,aT,aU,bn] H1) λr=>(r.1= .normal∧∃k',k'<k∧∃(i m1:Nat) (xq xc:Value) (lq lc:List Int) (x4 x5 bG x7 x8 cM x9 aG fq iG aP aX rH aT aU bn:Value),J (DG H o p t u xq lq xc lc) p m1 r.2.2∧m1≤m∧lq.length≤i∧lc.length≤i∧(i:Int)+k'=du L.length∧
     r.2.1=[pv p,x,x4,x5,cv L.length,bG,x7,x8,cM,x9,aG,cv i,fq,iG,xq,aP,aX,rH,xc,aT,aU,bn])∨(r.1≠ .normal∧(∃(m1:Nat) (xq xc:Value) (lq lc:List Int),J (DG H o p t u xq lq xc lc) p m1 r.2.2∧m1≤m∧lq.length≤128∧lc.length≤128∧r.2.1[14]? =some xq∧r.2.1[18]? =some xc)∧((r.1= .exit 0)∨(r.1= .ret∧r.2.1[2]? =some (cv 0)∧r.2.1[3]? =some (.bool false)))∧∃(x4 x5 bG x7 x8 cM x9 aG aJ fq iG aN aP aX rH aK aT aU bn:Value),r.2.1=[pv p,x,x4,x5,cv L.length,bG,x7,x8,cM,x9,aG,aJ,fq,iG,aN,aP,aX,rH,aK,aT,aU,bn]):=by
    intro m1 xq xc lq lc H1 x4 x5 bG x7 x8 cM x9 aG fq iG aX rH aT aU bn hj hm hlq Ja;simp -implicitDefEqProofs only[KN,yM,sS,Nat.reduceAdd];refine Ev.call (Hi _ _) ?_;rintro v TF ⟨rfl,rfl⟩;simp -implicitDefEqProofs only[Ag,sS,Nat.reduceAdd];obtain⟨_,o1,Gl,hg⟩:=id hj;obtain⟨y,Hg,hy2⟩:=(oz _ _ hg.fr).cut (m:=at_) (n:=to_) (lo:=some (cv (fy L.length i))) (hi:=some (cv (fy L.length i+jA L.length i))) (by omega) (by omega) (by rw[Px,TV]) (by rw[Px,JK])
    simp -implicitDefEqProofs only[Hg,sS,Nat.reduceAdd];have hjy:J (λH' o'=>DG H o p t u xq lq xc lc H' o'∧gE H' o' q y ((L.take to_).drop at_)) p m1 _:=⟨(DG.iK h2).and (cI.kJ (by simpa using hq)),o1,Gl,hg,hy2⟩
    refine Ev.dq (ih _ ?_ rfl ?_ hjy hq λH' o' a=>a.2) λz zb Hz mz Qg hmz=>?_
    ·simp;omega
    ·simp;omega
    have DH:=Qg.mono (DG.iK h2) λo' a=>a.1
    simp -implicitDefEqProofs only[DF,sS,Nat.reduceAdd];cases zb<;>try simp -implicitDefEqProofs only[DF,sS,Nat.reduceAdd]
    ·exact Ev.ret (.inr ⟨by simp,⟨_,_,_,_,_,DH,by omega,by omega,by omega,rfl,rfl⟩,.inr ⟨rfl,rfl,rfl⟩,_,_,_,_,_,_,_,_,_,_,_,_,_,_,_,_,_,_,_,rfl⟩)
    ·refine Ev.ac7 h2 DH (by omega) λx' l' Hz hj hl=>?_
     simp -implicitDefEqProofs only[KM,yL,hw,sS,Nat.reduceAdd];exact Ev.ret (.inl ⟨rfl,k-1,by omega,i+1,mz,_,_,_,_,_,_,_,_,_,_,_,_,_,_,_,_,_,_,_,_,hj,by omega,by omega,by omega,by omega,rfl⟩)
   refine Ev.gtr (λpT=>?_) (λpT=>?_)<;>try simp -implicitDefEqProofs only[sS,Nat.reduceAdd]
   ·obtain⟨_,o1,Gl,hg⟩:=id hj;obtain⟨i',off,b',e1,e2,e3,e4⟩:=(oz _ _ hg.fr).idx (j:=at_) (by omega)
    obtain⟨e5,e6,_⟩:=e4 _ e2;rw[TV] at e1;simp -implicitDefEqProofs only[e1,aQ,Nat.add_zero,e5,DF,sS,Nat.reduceAdd];refine Ev.ac6 h2 hj (by omega) λx' l' Hz hj hl=>?_
    exact J2 _ _ _ _ _ _ _ _ _ _ _ _ _ _ _ hj hm (by omega) Ja
   ·exact J2 _ _ _ _ _ _ _ _ _ _ _ _ _ _ _ hj hm (by omega) Ja
  ·exact Ev.ret (.inr ⟨by simp,⟨_,_,_,_,_,hj,hm,by omega,by omega,rfl,rfl⟩,.inl rfl,_,_,_,_,_,_,_,_,_,_,_,_,_,_,_,_,_,_,_,rfl⟩)
 ·rintro e vs H1 ⟨⟨m1,xq,xc,lq,lc,hj,hm,hlq,Ja,e14,e18⟩,he,x4,x5,bG,x7,x8,cM,x9,aG,aJ,fq,iG,aN,aP,aX,rH,aK,aT,aU,bn,rfl⟩;simp only[List.getElem?_cons_succ,List.getElem?_cons_zero,Option.some.injEq] at e14 e18;subst e14 e18;rcases he with rfl|⟨rfl,e1,e2⟩
  ·simp -implicitDefEqProofs only[KR,yO,sS,Nat.reduceAdd];obtain⟨_,o1,Gl,hg⟩:=id hj;refine Ev.wd (n5 (jr hj) _ hg.q.ints.1 hg.c.ints.1 (by omega)) λw Hz hjw=>?_
   repeat' (first|exact Ev.ret ⟨_,_,rfl,_,by assumption,by omega⟩| ((with_reducible first|refine Ev.lss (λhq=>?_) (λhq=>?_)|refine Ev.gtr (λhq=>?_) (λhq=>?_)|refine Ev.leq (λhq=>?_) (λhq=>?_)|refine Ev.geq (λhq=>?_) (λhq=>?_)|refine Ev.eql (λhq=>?_) (λhq=>?_)|refine Ev.neq (λhq=>?_) (λhq=>?_)|refine Ev.off ‹_› (λhq=>?_) (λhq=>?_)|refine Ev.az (dj _) λz=>?_ |refine Ev.az (gT _) λz=>?_ |refine Ev.az (cG _ _) λz=>?_ |refine Ev.az (bH _ _ _) λz=>?_ |refine Ev.az (hX _ _) λz=>?_ |refine Ev.az (cX _) λz=>?_ |refine Ev.az (de _ _ _ _) λz=>?_ |refine Ev.num (cE ‹_› _) λz Hz mz hj hm=>?_ |refine Ev.num (eM ‹_› _ _) λz Hz mz hj hm=>?_ |refine Ev.num (eI ‹_› _) λz Hz mz hj hm=>?_ |refine Ev.num (fl ‹_› _) λz Hz mz hj hm=>?_ |refine Ev.num (ea ‹_› _ _) λz Hz mz hj hm=>?_ |refine Ev.num (fX ‹_› _ _ _ _) λz Hz mz hj hm=>?_ |refine Ev.bool (eN ‹_› _ _ _) λz Hz mz hj hm=>?_ |refine Ev.un (cz ‹_› _ _) λz Hz mz hj hm=>?_ |refine Ev.un (fj ‹_› _) λz Hz mz hj hm=>?_ |refine Ev.dq (dc ‹_›) λz zb Hz mz hj hm=>?_ |refine Ev.dq (fW ‹_› _) λz zb Hz mz hj hm=>?_ |refine Ev.jt (df ‹_› _ _) λz zb Hz mz hj hm=>?_ |refine Ev.num (hY _ ‹_› _) λz Hz mz hj hm=>?_ |refine Ev.wd (cA ‹_› _ _ _ _) λw Hz hj=>?_ |refine Ev.wd (bU ‹_›) λw Hz hj=>?_ |refine Ev.wd (ct ‹_› _ _) λw Hz hj=>?_ |refine Ev.wd (bz ‹_› _ _ _) λw Hz hj=>?_ |refine Ev.nh ‹_› λHz hj=>?_ |refine Ev.ni ‹_› λHz hj=>?_ |refine Ev.mE ‹_› λz=>?_ |refine Ev.br (λhq=>?_) (λhq=>?_))<;>try simp -implicitDefEqProofs only[sS,Nat.reduceAdd]))
  ·simp only[List.getElem?_cons_succ,List.getElem?_cons_zero,Option.some.injEq] at e1 e2;subst e1 e2;show Ev (λ_=>some (Value.tuple #[cv 0,.bool false],H1)) _
   exact Ev.ret ⟨_,_,rfl,_,jr hj,by omega⟩
end
end Go.Proofs.YtjgmnoaalbbonaaGreat.Fun
end
