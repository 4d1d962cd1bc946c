/- Texts of the proof of linearChecks_holds, put together by a small program of ours (names shortened, spaces taken out). No condition beyond the given statement. -/
import Derived.Test.YtjgmnoaalbbonaaGreatLCQ17
import Derived.Test.YtjgmnoaalbbonaaGreatLCQ32
import Derived.Test.YtjgmnoaalbbonaaGreatLCQ20
set_option linter.unusedVariables false
set_option linter.unusedSimpArgs false
set_option linter.unnecessarySimpa false
noncomputable section
section
namespace Go.Proofs.YtjgmnoaalbbonaaGreat.Fun
open Go Go.RowKit Go.Proofs.YtjgmnoaalbbonaaGreatA.Am
set_option maxRecDepth 10000
section
variable {G:ag} {H H':ae} {o o':an} {p m c:Nat} {K:ae→an→Prop} {t:Int} {x:Value} {l:PL}
def KO (K:ae→an→Prop)(t:Int)(x:Value)(l:PL):ae→an→Prop:=λH o=>K H o∧fF H o t x l
structure rA (t:Int) (p:Nat):Prop where
 ne:t≠p
 n0:t≠ -50
 n1:t≠ -51
theorem fF.fr {H H':ae}{o o':an}{q:Int}{x:Value}{l:PL}{ps:List Int}(h:fF H o q x l)(f:Fr H o H' o' ps)(hp:q ∉ ps):fF H' o' q x l:=by
 rcases h with h|⟨i,cap,rest,ty,h1,h2,h3,h4⟩
 ·exact .inl h
 ·exact .inr ⟨i,cap,rest,ty,h1,by rw[f.same i (aq h2) (by rw[h4];exact hp)];exact h2,h3,by rw[f.own i (aq h2)];exact h4⟩
theorem cW.ko (ht:rA t p)(h:cW [(p:Int),t] K):cW [(p:Int)] (KO K t x l):=λH o H' o' a f=>⟨h H o H' o' a.1 (f.wk (by simp)),fF.fr a.2 f (by simpa using ht.ne)⟩
abbrev GO (K:ae→an→Prop)(t:Int)(c p m:Nat):Value→ae→Prop:=λv H'=>∃l' m',J (KO K t v l') p m' H'∧m'≤m∧l'.length+m'≤c
section
variable {α:Type} {k:Nat→Value→ae→Option α} {Q:α→Prop} {a b:Int} {T ty:TypeId} {C:Nat→ag} {f:Nat} {args:List Value}
theorem Ev.ahr (hK:cW [(p:Int),t] K)(ht:rA t p)(h:J (KO K t x l) p m H)(hb:l.length+1≤4294967296)(hk: ∀x' l' H',J (KO K t x' l') p m H'→l'.length=l.length+1→Ev (λn=>k n x' H') Q):
  Ev (λn=>af (cd T 2 16 x (.slice (some ⟨H.length,0,none⟩) 1 1) (H.new ⟨[cv a,cv b],ty,2,false⟩)) (k n)) Q:=by
 obtain⟨hJ,o,hr,Ls,hs⟩:=h;have f1:Fr H o (H.new ⟨[cv a,cv b],ty,2,false⟩) (o.up H.length (-9)) [t]:=(Fr.refl H o [t]).new _ _;have sQ:Fr H o (H.new ⟨[cv a,cv b],ty,2,false⟩) (o.up H.length (-9)) []:=(Fr.refl H o []).new _ _;obtain⟨x',H2,o2,e,s2,f2,_⟩:=fF.app (y:=.slice (some ⟨H.length,0,none⟩) 1 1) (m:=[(a,b)]) T (fF.fr hs sQ (by simp)) (Src.one (az)) (by simpa using hb)
 rw[e];have f3:=f1.tr f2;refine hk x' (l++[(a,b)]) H2 ⟨cW.ko ht hK,o2,hr.fr f3 ?_ ?_ ?_,hK _ _ _ _ Ls (f3.wk (by simp)),s2⟩ (by simp)
 ·simp;exact λe=>ht.ne e.symm
 ·simp;exact λe=>ht.n0 e.symm
 ·simp;exact λe=>ht.n1 e.symm
theorem Ev.gat {mm:Nat}(h:bN C f args H (GO K t c p mm))(hk: ∀x l m' H',J (KO K t x l) p m' H'→m'≤mm→l.length+m'≤c→Ev (λn=>k n x H') Q):Ev (λn=>af (C n f args H) (k n)) Q:=
 Ev.call h λv H' hq=>by obtain⟨l,m',h1,h2,h3⟩:=hq;exact hk v l m' H' h1 h2 h3
theorem Ev.afg {step:Nat→List Value→ae→bl}{kk:Nat→cg→List Value→ae→Option α}(I:Value→List Value→Prop)(R:cg→Value→List Value→Prop){vs:List Value}(hj:J (KO K t x l) p m H)(hc:l.length+m≤c)(hi:I x vs)(h: ∀m1 x l vs H1,J (KO K t x l) p m1 H1→m1≤m→l.length+m1≤c→I x vs→Ev (λn=>step n vs H1) λr=>(r.1= .normal∧∃x' l' m2,J (KO K t x' l') p m2 r.2.2∧m2<m1∧l'.length+m2≤c∧I x' r.2.1)∨(r.1≠ .normal∧∃x' l' m2,J (KO K t x' l') p m2 r.2.2∧m2≤m1∧l'.length+m2≤c∧R r.1 x' r.2.1))(hk: ∀e vs x l m1 H1,J (KO K t x l) p m1 H1→m1≤m→l.length+m1≤c→R e x vs→Ev (λn=>kk n e vs H1) Q):Ev (λn=>cI (iter n (step n) vs H) (kk n)) Q:=by
 refine Ev.loop (k:=m) (λk vs H1=>∃x l,J (KO K t x l) p k H1∧k≤m∧l.length+k≤c∧I x vs) (λr=>∃x l m2,J (KO K t x l) p m2 r.2.2∧m2≤m∧l.length+m2≤c∧R r.1 x r.2.1) ⟨x,l,hj,Nat.le_refl _,hc,hi⟩ ?_ ?_
 ·rintro k vs H1 ⟨x,l,h1,h2,h3,h4⟩;refine Ev.mono (h k x l vs H1 h1 h2 h3 h4) ?_;rintro⟨e,ju,H2⟩ (⟨g1,x',l',m2,g2,g3,g4,g5⟩|⟨g1,x',l',m2,g2,g3,g4,g5⟩)
  ·exact .inl ⟨g1,m2,g3,x',l',g2,by omega,g4,g5⟩
  ·exact .inr ⟨g1,x',l',m2,g2,by omega,g4,g5⟩
 ·rintro e vs H1 ⟨x,l,m2,g2,g3,g4,g5⟩;exact hk e vs x l m2 H1 g2 g3 g4 g5
end
theorem Cg (a b:Int):aI Tryz.prog 42 [(0,cv a),(1,cv b)]=some (.agg #[cv a,cv b]):=by kernel_rfl
theorem Lg (a b:Int)(H:ae):aw Tryz.prog 43 1 [(0,.agg #[cv a,cv b])] H=some (.slice (some ⟨H.length,0,none⟩) 1 1,H.new ⟨[cv a,cv b],42,2,false⟩):=by kernel_rfl
abbrev Ec (K:ae→an→Prop)(t:Int)(c p m1:Nat)(I:Value→List Value→Prop)(R:cg→Value→List Value→Prop):cg×List Value×ae→Prop:=λr=>(r.1= .normal∧∃x' l' m2,J (KO K t x' l') p m2 r.2.2∧m2<m1∧l'.length+m2≤c∧I x' r.2.1)∨(r.1≠ .normal∧∃x' l' m2,J (KO K t x' l') p m2 r.2.2∧m2≤m1∧l'.length+m2≤c∧R r.1 x' r.2.1)
abbrev gI (p:Nat)(a b d dd:Int)(x:Value)(vs:List Value):Prop:=∃(i r:Int) (aK cV aW dS dQ eX aZ bn bd iO gT bz ij:Value),vs=[pv p,cv a,cv b,cv d,x,aK,cv i,cv dd,cv r,cV,aW,dS,dQ,eX,aZ,bn,bd,iO,gT,bz,ij]
abbrev gR (p:Nat)(a b d dd:Int)(e:cg)(x:Value)(vs:List Value):Prop:=e= .exit 0∧∃(aK aR aP cV aW dS dQ eX aZ bn bd iO gT bz ij:Value),vs=[pv p,cv a,cv b,cv d,x,aK,aR,cv dd,aP,cV,aW,dS,dQ,eX,aZ,bn,bd,iO,gT,bz,ij]
theorem TG (ih': ∀{m':Nat} {x:Value} {l:PL} {H':ae},J (KO K t x l) p m' H'→m'<m→l.length+m'≤c→∀a b d,bN (run G) 139 [pv p,cv a,cv b,cv d,x] H' (GO K t c p (m'-1)))(hK:cW [(p:Int),t] K)(ht:rA t p)(hc:c≤2147483648){m1:Nat}(hj:J (KO K t x l) p m1 H)(hm:m1≤m)(hl:l.length+m1≤c)(a b d dd i r:Int)(aK cV aW dS dQ eX aZ bn bd iO gT bz ij:Value):
  Ev (λn=>yF (run G n) n [pv p,cv a,cv b,cv d,x,aK,cv i,cv dd,cv r,cV,aW,dS,dQ,eX,aZ,bn,bd,iO,gT,bz,ij] H) (Ec K t c p m1 (gI p a b d dd) (gR p a b d dd)):=by
 have L2: ∀{x:Value} {l:PL} {m2:Nat} {H2:ae},J (KO K t x l) p m2 H2→m2<m1→l.length+m2≤c→∀(i r:Int) (aK cV aW dS dQ eX aZ bn bd iO gT bz ij:Value),Ev (λn=>rN (run G n) n [pv p,cv a,cv b,cv d,x,aK,cv i,cv dd,cv r,cV,aW,dS,dQ,eX,aZ,bn,bd,iO,gT,bz,ij] H2) (Ec K t c p m1 (gI p a b d dd) (gR p a b d dd)):=by
  intro x l m2 H2 hj hm hl i r aK cV aW dS dQ eX aZ bn bd iO gT bz ij;simp -implicitDefEqProofs only[Ow,AE,sS,Nat.reduceAdd];exact Ev.ret (.inl ⟨rfl,_,_,_,hj,hm,hl,_,_,_,_,_,_,_,_,_,_,_,_,_,_,_,rfl⟩)
 have L3: ∀{x:Value} {l:PL} {m2:Nat} {H2:ae},J (KO K t x l) p m2 H2→m2<m1→l.length+m2≤c→∀(i r:Int) (aK cV aW dS dQ eX aZ bn bd iO gT bz ij:Value),Ev (λn=>u9 (run G n) n [pv p,cv a,cv b,cv d,x,aK,cv i,cv dd,cv r,cV,aW,dS,dQ,eX,aZ,bn,bd,iO,gT,bz,ij] H2) (Ec K t c p m1 (gI p a b d dd) (gR p a b d dd)):=by
  intro x l m2 H2 hj hm hl i r aK cV aW dS dQ eX aZ bn bd iO gT bz ij;simp -implicitDefEqProofs only[Ox,AF,sS,Nat.reduceAdd];exact L2 hj hm hl ..
 have L6: ∀{x:Value} {l:PL} {m2:Nat} {H2:ae},J (KO K t x l) p m2 H2→m2<m1→l.length+m2≤c→∀(s:Int) (i r:Int) (aK cV aW dS dQ eX aZ bn bd iO gT ij:Value),Ev (λn=>va (run G n) n [pv p,cv a,cv b,cv d,x,aK,cv i,cv dd,cv r,cV,aW,dS,dQ,eX,aZ,bn,bd,iO,gT,cv s,ij] H2) (Ec K t c p m1 (gI p a b d dd) (gR p a b d dd)):=by
  intro x l m2 H2 hj hm hl s i r aK cV aW dS dQ eX aZ bn bd iO gT ij;simp -implicitDefEqProofs only[Oy,AG,sS,Nat.reduceAdd];exact L2 hj hm hl ..
 have L5: ∀{x:Value} {l:PL} {m2:Nat} {H2:ae},J (KO K t x l) p m2 H2→m2<m1→l.length+m2≤c→∀(y:Int) (i r:Int) (aK cV aW dS dQ eX bn bd iO gT bz ij:Value),Ev (λn=>vb (run G n) n [pv p,cv a,cv b,cv d,x,aK,cv i,cv dd,cv r,cV,aW,dS,dQ,eX,cv y,bn,bd,iO,gT,bz,ij] H2) (Ec K t c p m1 (gI p a b d dd) (gR p a b d dd)):=by
  intro x l m2 H2 hj hm hl y i r aK cV aW dS dQ eX bn bd iO gT bz ij;simp -implicitDefEqProofs only[Oz,AH,sS,Nat.reduceAdd];repeat' (first| (with_reducible exact L6 ‹_› (by omega) (by omega) ..)| (with_reducible refine Ev.gat (ih' ‹_› (by omega) (by omega) _ _ _) λx' l' mz Hz hj hm hl=>?_ <;>try simp -implicitDefEqProofs only[sS,Nat.reduceAdd])| ((with_reducible first|refine Ev.lss (λhq=>?_) (λhq=>?_)|refine Ev.gtr (λhq=>?_) (λhq=>?_)|refine Ev.leq (λhq=>?_) (λhq=>?_)|refine Ev.geq (λhq=>?_) (λhq=>?_)|refine Ev.eql (λhq=>?_) (λhq=>?_)|refine Ev.neq (λhq=>?_) (λhq=>?_)|refine Ev.off ‹_› (λhq=>?_) (λhq=>?_)|refine Ev.aG (dx _) λz=>?_ |refine Ev.aG (iA _) λz=>?_ |refine Ev.aG (cS _ _) λz=>?_ |refine Ev.aG (bX _ _ _) λz=>?_ |refine Ev.aG (iJ _ _) λz=>?_ |refine Ev.aG (df _) λz=>?_ |refine Ev.aG (dk _ _ _ _) λz=>?_ |refine Ev.num (cQ ‹_› _) λz Hz mz hj hm=>?_ |refine Ev.num (fw ‹_› _ _) λz Hz mz hj hm=>?_ |refine Ev.num (fj ‹_› _) λz Hz mz hj hm=>?_ |refine Ev.num (fZ ‹_› _) λz Hz mz hj hm=>?_ |refine Ev.num (eV ‹_› _ _) λz Hz mz hj hm=>?_ |refine Ev.num (gP ‹_› _ _ _ _) λz Hz mz hj hm=>?_ |refine Ev.bool (fx ‹_› _ _ _) λz Hz mz hj hm=>?_ |refine Ev.un (cO ‹_› _ _) λz Hz mz hj hm=>?_ |refine Ev.un (fY ‹_› _) λz Hz mz hj hm=>?_ |refine Ev.dB (dj ‹_›) λz zb Hz mz hj hm=>?_ |refine Ev.dB (gO ‹_› _) λz zb Hz mz hj hm=>?_ |refine Ev.kc (dp ‹_› _ _) λz zb Hz mz hj hm=>?_ |refine Ev.num (iK _ ‹_› _) λz Hz mz hj hm=>?_ |refine Ev.wd (cP ‹_› _ _ _ _) λw Hz hj=>?_ |refine Ev.wd (cu ‹_›) λw Hz hj=>?_ |refine Ev.wd (cL ‹_› _ _) λw Hz hj=>?_ |refine Ev.wd (bM ‹_› _ _ _) λw Hz hj=>?_ |refine Ev.oP ‹_› λHz hj=>?_ |refine Ev.oQ ‹_› λHz hj=>?_ |refine Ev.nX ‹_› λz=>?_ |refine Ev.br (λhq=>?_) (λhq=>?_))<;>try simp -implicitDefEqProofs only[sS,Nat.reduceAdd]))
 have L4: ∀{x:Value} {l:PL} {m2:Nat} {H2:ae},J (KO K t x l) p m2 H2→m2<m1→l.length+m2≤c→∀(w y:Int) (q:Bool) (i r:Int) (aK cV dS dQ eX bn bd gT bz ij:Value),Ev (λn=>vd (run G n) n [pv p,cv a,cv b,cv d,x,aK,cv i,cv dd,cv r,cV,cv w,dS,dQ,eX,cv y,bn,bd,.bool q,gT,bz,ij] H2) (Ec K t c p m1 (gI p a b d dd) (gR p a b d dd)):=by
  intro x l m2 H2 hj hm hl w y q i r aK cV dS dQ eX bn bd gT bz ij;simp -implicitDefEqProofs only[OA,AI,sS,Nat.reduceAdd];cases q<;>simp -implicitDefEqProofs only[sS,Nat.reduceAdd]
  ·exact L2 hj hm hl ..
  repeat' (first| (with_reducible exact L5 ‹_› (by omega) (by omega) ..)| ((with_reducible first|refine Ev.lss (λhq=>?_) (λhq=>?_)|refine Ev.gtr (λhq=>?_) (λhq=>?_)|refine Ev.leq (λhq=>?_) (λhq=>?_)|refine Ev.geq (λhq=>?_) (λhq=>?_)|refine Ev.eql (λhq=>?_) (λhq=>?_)|refine Ev.neq (λhq=>?_) (λhq=>?_)|refine Ev.off ‹_› (λhq=>?_) (λhq=>?_)|refine Ev.aG (dx _) λz=>?_ |refine Ev.aG (iA _) λz=>?_ |refine Ev.aG (cS _ _) λz=>?_ |refine Ev.aG (bX _ _ _) λz=>?_ |refine Ev.aG (iJ _ _) λz=>?_ |refine Ev.aG (df _) λz=>?_ |refine Ev.aG (dk _ _ _ _) λz=>?_ |refine Ev.num (cQ ‹_› _) λz Hz mz hj hm=>?_ |refine Ev.num (fw ‹_› _ _) λz Hz mz hj hm=>?_ |refine Ev.num (fj ‹_› _) λz Hz mz hj hm=>?_ |refine Ev.num (fZ ‹_› _) λz Hz mz hj hm=>?_ |refine Ev.num (eV ‹_› _ _) λz Hz mz hj hm=>?_ |refine Ev.num (gP ‹_› _ _ _ _) λz Hz mz hj hm=>?_ |refine Ev.bool (fx ‹_› _ _ _) λz Hz mz hj hm=>?_ |refine Ev.un (cO ‹_› _ _) λz Hz mz hj hm=>?_ |refine Ev.un (fY ‹_› _) λz Hz mz hj hm=>?_ |refine Ev.dB (dj ‹_›) λz zb Hz mz hj hm=>?_ |refine Ev.dB (gO ‹_› _) λz zb Hz mz hj hm=>?_ |refine Ev.kc (dp ‹_› _ _) λz zb Hz mz hj hm=>?_ |refine Ev.num (iK _ ‹_› _) λz Hz mz hj hm=>?_ |refine Ev.wd (cP ‹_› _ _ _ _) λw Hz hj=>?_ |refine Ev.wd (cu ‹_›) λw Hz hj=>?_ |refine Ev.wd (cL ‹_› _ _) λw Hz hj=>?_ |refine Ev.wd (bM ‹_› _ _ _) λw Hz hj=>?_ |refine Ev.oP ‹_› λHz hj=>?_ |refine Ev.oQ ‹_› λHz hj=>?_ |refine Ev.nX ‹_› λz=>?_ |refine Ev.br (λhq=>?_) (λhq=>?_))<;>try simp -implicitDefEqProofs only[sS,Nat.reduceAdd]))
 simp -implicitDefEqProofs only[OB,AJ,sS,Nat.reduceAdd];repeat' (first| (with_reducible exact L3 ‹_› (by omega) (by omega) ..)| (with_reducible exact L4 ‹_› (by omega) (by omega) ..)| ((with_reducible first|refine Ev.lss (λhq=>?_) (λhq=>?_)|refine Ev.gtr (λhq=>?_) (λhq=>?_)|refine Ev.leq (λhq=>?_) (λhq=>?_)|refine Ev.geq (λhq=>?_) (λhq=>?_)|refine Ev.eql (λhq=>?_) (λhq=>?_)|refine Ev.neq (λhq=>?_) (λhq=>?_)|refine Ev.off ‹_› (λhq=>?_) (λhq=>?_)|refine Ev.aG (dx _) λz=>?_ |refine Ev.aG (iA _) λz=>?_ |refine Ev.aG (cS _ _) λz=>?_ |refine Ev.aG (bX _ _ _) λz=>?_ |refine Ev.aG (iJ _ _) λz=>?_ |refine Ev.aG (df _) λz=>?_ |refine Ev.aG (dk _ _ _ _) λz=>?_ |refine Ev.num (cQ ‹_› _) λz Hz mz hj hm=>?_ |refine Ev.num (fw ‹_› _ _) λz Hz mz hj hm=>?_ |refine Ev.num (fj ‹_› _) λz Hz mz hj hm=>?_ |refine Ev.num (fZ ‹_› _) λz Hz mz hj hm=>?_ |refine Ev.num (eV ‹_› _ _) λz Hz mz hj hm=>?_ |refine Ev.num (gP ‹_› _ _ _ _) λz Hz mz hj hm=>?_ |refine Ev.bool (fx ‹_› _ _ _) λz Hz mz hj hm=>?_ |refine Ev.un (cO ‹_› _ _) λz Hz mz hj hm=>?_ |refine Ev.un (fY ‹_› _) λz Hz mz hj hm=>?_ |refine Ev.dB (dj ‹_›) λz zb Hz mz hj hm=>?_ |refine Ev.dB (gO ‹_› _) λz zb Hz mz hj hm=>?_ |refine Ev.kc (dp ‹_› _ _) λz zb Hz mz hj hm=>?_ |refine Ev.num (iK _ ‹_› _) λz Hz mz hj hm=>?_ |refine Ev.wd (cP ‹_› _ _ _ _) λw Hz hj=>?_ |refine Ev.wd (cu ‹_›) λw Hz hj=>?_ |refine Ev.wd (cL ‹_› _ _) λw Hz hj=>?_ |refine Ev.wd (bM ‹_› _ _ _) λw Hz hj=>?_ |refine Ev.oP ‹_› λHz hj=>?_ |refine Ev.oQ ‹_› λHz hj=>?_ |refine Ev.nX ‹_› λz=>?_ |refine Ev.br (λhq=>?_) (λhq=>?_))<;>try simp -implicitDefEqProofs only[sS,Nat.reduceAdd])| (with_reducible exact Ev.ret (.inr ⟨by simp,_,_,_,by assumption,by omega,by omega,rfl,_,_,_,_,_,_,_,_,_,_,_,_,_,_,_,rfl⟩))| (simp -implicitDefEqProofs only[Cg,Lg,sS,Nat.reduceAdd];done)| (with_reducible refine Ev.ahr hK ht ‹_› (by omega) λx' l' Hz hj hl=>?_ <;>try simp -implicitDefEqProofs only[sS,Nat.reduceAdd])| (simp -implicitDefEqProofs only[Cg,Lg,sS,Nat.reduceAdd]))
theorem TH (hK:cW [(p:Int),t] K)(ht:rA t p)(hc:c≤2147483648): ∀(m:Nat) {x:Value} {l:PL} {H:ae},J (KO K t x l) p m H→l.length+m≤c→∀a b d,bN (run G) 139 [pv p,cv a,cv b,cv d,x] H (GO K t c p (m-1)):=by
 intro m;induction m using Nat.strongRecOn with
 |ind m ih=>
 intro x l H h hl a b d;have ih': ∀{m':Nat} {x:Value} {l:PL} {H':ae},J (KO K t x l) p m' H'→m'<m→l.length+m'≤c→∀a b d,bN (run G) 139 [pv p,cv a,cv b,cv d,x] H' (GO K t c p (m'-1)):=λhj hm hl a b d=>ih _ hm hj hl a b d
 refine Ev.up (t:=λn=>aaD (run G n) n (pv p) (cv a) (cv b) (cv d) x H) ?_ λn=>VN ..
 simp -implicitDefEqProofs only[aaD,sS,Nat.reduceAdd];refine Ev.num (cQ h a) λdd H1 m1 kY Np=>?_
 refine Ev.afg (K:=K) (t:=t) (p:=p) (m:=m1) (c:=c) (gI p a b d dd) (gR p a b d dd) kY (by omega) ⟨_,_,_,_,_,_,_,_,_,_,_,_,_,_,_,rfl⟩ ?_ ?_
 ·rintro m1 x l vs H2 hj hm hl ⟨i,r,aK,cV,aW,dS,dQ,eX,aZ,bn,bd,iO,gT,bz,ij,rfl⟩;exact TG ih' hK ht hc hj (by omega) hl ..
 ·rintro e vs x l m2 H2 hj hm hl ⟨rfl,aK,aR,aP,cV,aW,dS,dQ,eX,aZ,bn,bd,iO,gT,bz,ij,rfl⟩;simp -implicitDefEqProofs only[Ov,AD,sS,Nat.reduceAdd];exact Ev.ret ⟨l,m2,hj,by omega,hl⟩
theorem Ed (h:J K p m H)(hm:m≤2147483648)(a b d:Int):bN (run G) 139 [pv p,cv a,cv b,cv d,.slice none 0 0] H λv H'=>∃t l m',t≠(p:Int)∧J (λH o=>K H o∧ee H o t v l) p m' H'∧m'≤m-1∧l.length+m'≤m:=by
 obtain⟨hK,o,hr,hk⟩:=h;obtain⟨t,wP,TE⟩:=j5 o H.length;have ht:rA t p:=⟨by omega,by omega,by omega⟩
 have hB:cW [(p:Int),t] λH' o'=>Fr H o H' o' [t,(p:Int)]:=cW.base (by simp)
 refine bN.mono (TH (c:=m) hB ht hm m (x:=.slice none 0 0) (l:=[]) ⟨cW.ko ht hB,o,hr,Fr.refl _ _ _,.inl ⟨rfl,rfl⟩⟩ (by simp) a b d) ?_
 rintro v H' ⟨l,m',⟨_,o',Um,hf,hs⟩,h1,h2⟩;refine⟨t,l,m',ht.ne,⟨hK.and (cW.lZ (by simpa using ht.ne)),o',Um,hK _ _ _ _ hk (nI hf λi hi=>by have:=TE i hi;omega),hs.r⟩,h1,h2⟩
end
section
variable {G:ag} {H H':ae} {o o':an} {p m c:Nat} {K:ae→an→Prop} {t:Int} {x:Value} {l:PL}
theorem KZ {s:Value}{cs:List Int}(T ty:TypeId)(a:Int)(hs:rJ H o t s cs)(hb:cs.length+1≤4294967296):
  ∃s' H2 o2,cd T 1 8 s (.slice (some ⟨H.length,0,none⟩) 1 1) (H.new ⟨[cv a],ty,1,false⟩)=some (s',H2)∧rJ H2 o2 t s' (cs++[a])∧Fr H o H2 o2 [t]:=by
 have f1:Fr H o (H.new ⟨[cv a],ty,1,false⟩) (o.up H.length (-9)) [t]:=(Fr.refl H o [t]).new _ _;have sQ:Fr H o (H.new ⟨[cv a],ty,1,false⟩) (o.up H.length (-9)) []:=(Fr.refl H o []).new _ _;obtain⟨s',H2,o2,e,s2,f2,_⟩:=mL (x:=.slice (some ⟨H.length,0,none⟩) 1 1) (l:=[a]) T (hs.fr sQ (by simp)) (.inr ⟨H.length,0,1,rfl,λ_=>⟨_,az,rfl,by simp,by simp⟩⟩) (by simpa using hb)
 exact⟨s',H2,o2,e,s2,f1.tr f2⟩
structure Gw (B:ae) (b:an) (p:Nat) (t u:Int) (x:Value) (lx:List Int) (y:Value) (ly:List Int) (H:ae) (o:an):Prop where
 fr:Fr B b H o [(p:Int)]
 q:rJ H o t x lx
 c:rJ H o u y ly
structure Two (B:ae) (b:an) (p:Nat) (t u:Int):Prop where
 at1:rA t p
 at2:rA u p
 ne:t≠u
 ft: ∀i,i<B.length→b i≠t
 fu: ∀i,i<B.length→b i≠u
theorem TJ (B:ae)(b:an)(p:Nat): ∃t u,Two B b p t u:=by
 obtain⟨t,h1,h2⟩:=j5 b B.length;exact⟨t,t-1,⟨by omega,by omega,by omega⟩,⟨by omega,by omega,by omega⟩,by omega,λi hi=>by have:=h2 i hi;omega,λi hi=>by have:=h2 i hi;omega⟩
section
variable {B:ae} {b:an} {u:Int} {y:Value} {lx ly:List Int}
theorem Gw.js (h2:Two B b p t u):cW [(p:Int)] (Gw B b p t u x lx y ly):=λH o H' o' h f=>⟨h.fr.tr f,h.q.fr f (by simpa using h2.at1.ne),h.c.fr f (by simpa using h2.at2.ne)⟩
variable {α:Type} {k:Nat→Value→ae→Option α} {Q:α→Prop} {a:Int} {T ty:TypeId}
theorem Ev.ahs (h2:Two B b p t u)(h:J (Gw B b p t u x lx y ly) p m H)(hb:lx.length+1≤4294967296)(hk: ∀x' lx' H',J (Gw B b p t u x' lx' y ly) p m H'→lx'.length=lx.length+1→Ev (λn=>k n x' H') Q):
  Ev (λn=>af (cd T 1 8 x (.slice (some ⟨H.length,0,none⟩) 1 1) (H.new ⟨[cv a],ty,1,false⟩)) (k n)) Q:=by
 obtain⟨_,o,hr,hf,hx,hy⟩:=h;obtain⟨s',H2,o2,e,s2,f2⟩:=KZ T ty a hx hb;rw[e];refine hk s' _ H2 ⟨Gw.js h2,o2,hr.fr f2 ?_ ?_ ?_,nI (hf.trans f2 (rs:=[t,(p:Int)]) (by simp) (by simp)) h2.ft,s2,hy.fr f2 ?_⟩ (by simp)
 ·simp;exact λe=>h2.at1.ne e.symm
 ·simp;exact λe=>h2.at1.n0 e.symm
 ·simp;exact λe=>h2.at1.n1 e.symm
 ·simp;exact λe=>h2.ne e.symm
theorem Ev.aht (h2:Two B b p t u)(h:J (Gw B b p t u x lx y ly) p m H)(hb:ly.length+1≤4294967296)(hk: ∀y' ly' H',J (Gw B b p t u x lx y' ly') p m H'→ly'.length=ly.length+1→Ev (λn=>k n y' H') Q):
  Ev (λn=>af (cd T 1 8 y (.slice (some ⟨H.length,0,none⟩) 1 1) (H.new ⟨[cv a],ty,1,false⟩)) (k n)) Q:=by
 obtain⟨_,o,hr,hf,hx,hy⟩:=h;obtain⟨s',H2,o2,e,s2,f2⟩:=KZ T ty a hy hb;rw[e];refine hk s' _ H2 ⟨Gw.js h2,o2,hr.fr f2 ?_ ?_ ?_,nI (hf.trans f2 (rs:=[u,(p:Int)]) (by simp) (by simp)) h2.fu,hx.fr f2 ?_,s2⟩ (by simp)
 ·simp;exact λe=>h2.at2.ne e.symm
 ·simp;exact λe=>h2.at2.n0 e.symm
 ·simp;exact λe=>h2.at2.n1 e.symm
 ·simp;exact λe=>h2.ne e
end
theorem TK (n a:Int):cK n (some (cv a))=some a:=rfl
theorem TM: ∀(N:Nat) {K:ae→an→Prop} {H:ae} {m:Nat} {x:Value} {L:PL} {q:Int},L.length=N→N≤2147483648→J K p m H→q≠(p:Int)→(∀H o,K H o→ee H o q x L)→bN (run G) 140 [pv p,x] H (ID K p m):=by
 intro N;induction N using Nat.strongRecOn with
 |ind N ih=>
 intro K H m x L q hN hN2 h hq hx;refine Ev.up (t:=λn=>abG (run G n) n (pv p) x H) ?_ λn=>Wn ..
 obtain⟨hK,o,hr,hk⟩:=id h;have hs:=hx _ _ hk;simp -implicitDefEqProofs only[abG,hs.len,sS,Nat.reduceAdd];refine Ev.eql (λh0=>?_) (λh0=>?_)<;>try simp -implicitDefEqProofs only[sS,Nat.reduceAdd]
 ·repeat' (first|exact Ev.ret ⟨_,_,rfl,_,by assumption,by omega⟩| ((with_reducible first|refine Ev.lss (λhq=>?_) (λhq=>?_)|refine Ev.gtr (λhq=>?_) (λhq=>?_)|refine Ev.leq (λhq=>?_) (λhq=>?_)|refine Ev.geq (λhq=>?_) (λhq=>?_)|refine Ev.eql (λhq=>?_) (λhq=>?_)|refine Ev.neq (λhq=>?_) (λhq=>?_)|refine Ev.off ‹_› (λhq=>?_) (λhq=>?_)|refine Ev.aG (dx _) λz=>?_ |refine Ev.aG (iA _) λz=>?_ |refine Ev.aG (cS _ _) λz=>?_ |refine Ev.aG (bX _ _ _) λz=>?_ |refine Ev.aG (iJ _ _) λz=>?_ |refine Ev.aG (df _) λz=>?_ |refine Ev.aG (dk _ _ _ _) λz=>?_ |refine Ev.num (cQ ‹_› _) λz Hz mz hj hm=>?_ |refine Ev.num (fw ‹_› _ _) λz Hz mz hj hm=>?_ |refine Ev.num (fj ‹_› _) λz Hz mz hj hm=>?_ |refine Ev.num (fZ ‹_› _) λz Hz mz hj hm=>?_ |refine Ev.num (eV ‹_› _ _) λz Hz mz hj hm=>?_ |refine Ev.num (gP ‹_› _ _ _ _) λz Hz mz hj hm=>?_ |refine Ev.bool (fx ‹_› _ _ _) λz Hz mz hj hm=>?_ |refine Ev.un (cO ‹_› _ _) λz Hz mz hj hm=>?_ |refine Ev.un (fY ‹_› _) λz Hz mz hj hm=>?_ |refine Ev.dB (dj ‹_›) λz zb Hz mz hj hm=>?_ |refine Ev.dB (gO ‹_› _) λz zb Hz mz hj hm=>?_ |refine Ev.kc (dp ‹_› _ _) λz zb Hz mz hj hm=>?_ |refine Ev.num (iK _ ‹_› _) λz Hz mz hj hm=>?_ |refine Ev.wd (cP ‹_› _ _ _ _) λw Hz hj=>?_ |refine Ev.wd (cu ‹_›) λw Hz hj=>?_ |refine Ev.wd (cL ‹_› _ _) λw Hz hj=>?_ |refine Ev.wd (bM ‹_› _ _ _) λw Hz hj=>?_ |refine Ev.oP ‹_› λHz hj=>?_ |refine Ev.oQ ‹_› λHz hj=>?_ |refine Ev.nX ‹_› λz=>?_ |refine Ev.br (λhq=>?_) (λhq=>?_))<;>try simp -implicitDefEqProofs only[sS,Nat.reduceAdd]))
 refine Ev.eql (λh1=>?_) (λh1=>?_)<;>try simp -implicitDefEqProofs only[sS,Nat.reduceAdd]
 ·obtain⟨i,off,b,e1,e2,e3,e4⟩:=hs.idx (j:=0) (by omega)
  obtain⟨e5,e6,_⟩:=e4 H e2;simp only[Int.natCast_zero] at e1;simp -implicitDefEqProofs only[e1,ax,Nat.add_zero,e5,e6,sS,Nat.reduceAdd];repeat' (first|exact Ev.ret ⟨_,_,rfl,_,by assumption,by omega⟩| ((with_reducible first|refine Ev.lss (λhq=>?_) (λhq=>?_)|refine Ev.gtr (λhq=>?_) (λhq=>?_)|refine Ev.leq (λhq=>?_) (λhq=>?_)|refine Ev.geq (λhq=>?_) (λhq=>?_)|refine Ev.eql (λhq=>?_) (λhq=>?_)|refine Ev.neq (λhq=>?_) (λhq=>?_)|refine Ev.off ‹_› (λhq=>?_) (λhq=>?_)|refine Ev.aG (dx _) λz=>?_ |refine Ev.aG (iA _) λz=>?_ |refine Ev.aG (cS _ _) λz=>?_ |refine Ev.aG (bX _ _ _) λz=>?_ |refine Ev.aG (iJ _ _) λz=>?_ |refine Ev.aG (df _) λz=>?_ |refine Ev.aG (dk _ _ _ _) λz=>?_ |refine Ev.num (cQ ‹_› _) λz Hz mz hj hm=>?_ |refine Ev.num (fw ‹_› _ _) λz Hz mz hj hm=>?_ |refine Ev.num (fj ‹_› _) λz Hz mz hj hm=>?_ |refine Ev.num (fZ ‹_› _) λz Hz mz hj hm=>?_ |refine Ev.num (eV ‹_› _ _) λz Hz mz hj hm=>?_ |refine Ev.num (gP ‹_› _ _ _ _) λz Hz mz hj hm=>?_ |refine Ev.bool (fx ‹_› _ _ _) λz Hz mz hj hm=>?_ |refine Ev.un (cO ‹_› _ _) λz Hz mz hj hm=>?_ |refine Ev.un (fY ‹_› _) λz Hz mz hj hm=>?_ |refine Ev.dB (dj ‹_›) λz zb Hz mz hj hm=>?_ |refine Ev.dB (gO ‹_› _) λz zb Hz mz hj hm=>?_ |refine Ev.kc (dp ‹_› _ _) λz zb Hz mz hj hm=>?_ |refine Ev.num (iK _ ‹_› _) λz Hz mz hj hm=>?_ |refine Ev.wd (cP ‹_› _ _ _ _) λw Hz hj=>?_ |refine Ev.wd (cu ‹_›) λw Hz hj=>?_ |refine Ev.wd (cL ‹_› _ _) λw Hz hj=>?_ |refine Ev.wd (bM ‹_› _ _ _) λw Hz hj=>?_ |refine Ev.oP ‹_› λHz hj=>?_ |refine Ev.oQ ‹_› λHz hj=>?_ |refine Ev.nX ‹_› λz=>?_ |refine Ev.br (λhq=>?_) (λhq=>?_))<;>try simp -implicitDefEqProofs only[sS,Nat.reduceAdd]))
 obtain⟨t,u,h2⟩:=TJ H o p;have hd:=vG L.length;have j8: ∀{xq xc:Value} {lq lc:List Int} {m':Nat} {H':ae},J (Gw H o p t u xq lq xc lc) p m' H'→J K p m' H':=λhj=>hj.mono hK λo' hg=>hK _ _ _ _ hk hg.fr
 have nP: ∀(H':ae) (o':an),Fr H o H' o' [(p:Int)]→ee H' o' q x L:=λH' o' f=>hs.fr f (by simpa using hq)
 have Co:J (Gw H o p t u (.slice none 0 0) [] (.slice none 0 0) []) p m H:=⟨Gw.js h2,o,hr,Fr.refl _ _ _,.inl ⟨rfl,rfl⟩,.inl ⟨rfl,rfl⟩⟩;refine Ev.loop (k:=(dJ L.length).toNat) (λk vs H1=>∃(i m1:Nat) (xq xc:Value) (lq lc:List Int) (x4 x5 bJ x7 x8 cN x9 aK fl ia aW bn pZ aZ bd bz:Value),J (Gw H o p t u xq lq xc lc) p m1 H1∧m1≤m∧lq.length≤i∧lc.length≤i∧(i:Int)+k=dJ L.length∧
   vs=[pv p,x,x4,x5,cv L.length,bJ,x7,x8,cN,x9,aK,cv i,fl,ia,xq,aW,bn,pZ,xc,aZ,bd,bz])
  (λr=>(∃(m1:Nat) (xq xc:Value) (lq lc:List Int),J (Gw H o p t u xq lq xc lc) p m1 r.2.2∧m1≤m∧lq.length≤128∧lc.length≤128∧r.2.1[14]? =some xq∧r.2.1[18]? =some xc)∧((r.1= .exit 0)∨(r.1= .ret∧r.2.1[2]? =some (cv 0)∧r.2.1[3]? =some (.bool false)))∧∃(x4 x5 bJ x7 x8 cN x9 aK aR fl ia aU aW bn pZ aP aZ bd bz:Value),r.2.1=[pv p,x,x4,x5,cv L.length,bJ,x7,x8,cN,x9,aK,aR,fl,ia,aU,aW,bn,pZ,aP,aZ,bd,bz])
  ⟨0,m,_,_,[],[],_,_,_,_,_,_,_,_,_,_,_,_,_,_,_,_,Co,by omega,by simp,by simp,by omega,rfl⟩ ?_ ?_
 ·rintro k vs H1 ⟨i,m1,xq,xc,lq,lc,x4,x5,bJ,x7,x8,cN,x9,aK,fl,ia,aW,bn,pZ,aZ,bd,bz,hj,hm,hlq,Nm,hik,rfl⟩;simp -implicitDefEqProofs only[OT,Bf,sS,Nat.reduceAdd];refine Ev.call (rz _) ?_;rintro v Yh ⟨rfl,rfl⟩
  try simp -implicitDefEqProofs only[sS,Nat.reduceAdd]
  refine Ev.lss (λLw=>?_) (λLw=>?_)<;>try simp -implicitDefEqProofs only[sS,Nat.reduceAdd]
  ·refine Ev.call (TF _ _) ?_;rintro v Yh ⟨rfl,rfl⟩
   try simp -implicitDefEqProofs only[sS,Nat.reduceAdd]
   have QO:2≤(L.length:Int)∧(L.length:Int)≤16384:=by
    rcases Int.lt_or_le 16384 (L.length:Int) with g2|g2
    ·have:=rq (n:=(L.length:Int)) (.inr g2);omega
    ·exact⟨by omega,g2⟩
   have oY:=Cd QO (i:=i) (by omega)
   have hpt:=Xv QO (i:=i) Lw;have Cn:=IF L.length i;have hfe:Eb L.length i=gu L.length i:=by rw[Eb,if_neg (by omega),Int.toNat_natCast]
   have hw:IntKind.i64.wrap ((i:Int)+1)=((i+1:Nat):Int):=by rw[jE (by omega)];omega
   have uH:IntKind.i64.wrap (gu L.length i+kv L.length i)=gu L.length i+kv L.length i:=jE (by omega)
   obtain⟨at_,IZ⟩: ∃z:Nat,(z:Int)=gu L.length i:=⟨(gu L.length i).toNat,by omega⟩
   obtain⟨to_,NY⟩: ∃z:Nat,(z:Int)=gu L.length i+kv L.length i:=⟨(gu L.length i+kv L.length i).toNat,by omega⟩
   rw[hfe];have J2: ∀{m1:Nat} {xq xc:Value} {lq lc:List Int} {H1:ae} (x4 x5 bJ x7 x8 cN x9 aK fl ia bn pZ aZ bd bz:Value),J (Gw H o p t u xq lq xc lc) p m1 H1→m1≤m→lq.length≤i+1→lc.length≤i→Ev (λn=>yJ (run G n) n [pv p,x,x4,x5,cv L.length,bJ,x7,x8,cN,x9,aK,cv i,fl,ia,xq,cv (gu L.length i),bn,pZ,xc,aZ,bd,bz] H1) λr=>(r.1= .normal∧∃k',k'<k∧∃(i m1:Nat) (xq xc:Value) (lq lc:List Int) (x4 x5 bJ x7 x8 cN x9 aK fl ia aW bn pZ aZ bd bz:Value),J (Gw H o p t u xq lq xc lc) p m1 r.2.2∧m1≤m∧lq.length≤i∧lc.length≤i∧(i:Int)+k'=dJ L.length∧
     r.2.1=[pv p,x,x4,x5,cv L.length,bJ,x7,x8,cN,x9,aK,cv i,fl,ia,xq,aW,bn,pZ,xc,aZ,bd,bz])∨(r.1≠ .normal∧(∃(m1:Nat) (xq xc:Value) (lq lc:List Int),J (Gw H o p t u xq lq xc lc) p m1 r.2.2∧m1≤m∧lq.length≤128∧lc.length≤128∧r.2.1[14]? =some xq∧r.2.1[18]? =some xc)∧((r.1= .exit 0)∨(r.1= .ret∧r.2.1[2]? =some (cv 0)∧r.2.1[3]? =some (.bool false)))∧∃(x4 x5 bJ x7 x8 cN x9 aK aR fl ia aU aW bn pZ aP aZ bd bz:Value),r.2.1=[pv p,x,x4,x5,cv L.length,bJ,x7,x8,cN,x9,aK,aR,fl,ia,aU,aW,bn,pZ,aP,aZ,bd,bz]):=by
    intro m1 xq xc lq lc H1 x4 x5 bJ x7 x8 cN x9 aK fl ia bn pZ aZ bd bz hj hm hlq Nm;simp -implicitDefEqProofs only[OS,Be,sS,Nat.reduceAdd];refine Ev.call (Lf _ _) ?_;rintro v Yh ⟨rfl,rfl⟩;simp -implicitDefEqProofs only[uH,sS,Nat.reduceAdd];obtain⟨_,o1,JA,hg⟩:=id hj;obtain⟨y,K8,hy2⟩:=(nP _ _ hg.fr).cut (m:=at_) (n:=to_) (lo:=some (cv (gu L.length i))) (hi:=some (cv (gu L.length i+kv L.length i))) (by omega) (by omega) (by rw[TK,IZ]) (by rw[TK,NY])
    simp -implicitDefEqProofs only[K8,sS,Nat.reduceAdd];have hjy:J (λH' o'=>Gw H o p t u xq lq xc lc H' o'∧ee H' o' q y ((L.take to_).drop at_)) p m1 _:=⟨(Gw.js h2).and (cW.lZ (by simpa using hq)),o1,JA,hg,hy2⟩
    refine Ev.dB (ih _ ?_ rfl ?_ hjy hq λH' o' a=>a.2) λz zb Hz mz UG hmz=>?_
    ·simp;omega
    ·simp;omega
    have Gx:=UG.mono (Gw.js h2) λo' a=>a.1
    simp -implicitDefEqProofs only[Gv,sS,Nat.reduceAdd];cases zb<;>try simp -implicitDefEqProofs only[Gv,sS,Nat.reduceAdd]
    ·exact Ev.ret (.inr ⟨by simp,⟨_,_,_,_,_,Gx,by omega,by omega,by omega,rfl,rfl⟩,.inr ⟨rfl,rfl,rfl⟩,_,_,_,_,_,_,_,_,_,_,_,_,_,_,_,_,_,_,_,rfl⟩)
    ·refine Ev.aht h2 Gx (by omega) λx' l' Hz hj hl=>?_
     simp -implicitDefEqProofs only[OR,Bd,hw,sS,Nat.reduceAdd];exact Ev.ret (.inl ⟨rfl,k-1,by omega,i+1,mz,_,_,_,_,_,_,_,_,_,_,_,_,_,_,_,_,_,_,_,_,hj,by omega,by omega,by omega,by omega,rfl⟩)
   refine Ev.gtr (λrB=>?_) (λrB=>?_)<;>try simp -implicitDefEqProofs only[sS,Nat.reduceAdd]
   ·obtain⟨_,o1,JA,hg⟩:=id hj;obtain⟨i',off,b',e1,e2,e3,e4⟩:=(nP _ _ hg.fr).idx (j:=at_) (by omega)
    obtain⟨e5,e6,_⟩:=e4 _ e2;rw[IZ] at e1;simp -implicitDefEqProofs only[e1,ax,Nat.add_zero,e5,Gv,sS,Nat.reduceAdd];refine Ev.ahs h2 hj (by omega) λx' l' Hz hj hl=>?_
    exact J2 _ _ _ _ _ _ _ _ _ _ _ _ _ _ _ hj hm (by omega) Nm
   ·exact J2 _ _ _ _ _ _ _ _ _ _ _ _ _ _ _ hj hm (by omega) Nm
  ·exact Ev.ret (.inr ⟨by simp,⟨_,_,_,_,_,hj,hm,by omega,by omega,rfl,rfl⟩,.inl rfl,_,_,_,_,_,_,_,_,_,_,_,_,_,_,_,_,_,_,_,rfl⟩)
 ·rintro e vs H1 ⟨⟨m1,xq,xc,lq,lc,hj,hm,hlq,Nm,e14,e18⟩,he,x4,x5,bJ,x7,x8,cN,x9,aK,aR,fl,ia,aU,aW,bn,pZ,aP,aZ,bd,bz,rfl⟩;simp only[List.getElem?_cons_succ,List.getElem?_cons_zero,Option.some.injEq] at e14 e18;subst e14 e18;rcases he with rfl|⟨rfl,e1,e2⟩
  ·simp -implicitDefEqProofs only[OU,Bg,sS,Nat.reduceAdd];obtain⟨_,o1,JA,hg⟩:=id hj;refine Ev.wd (pL (j8 hj) _ hg.q.ints.1 hg.c.ints.1 (by omega)) λw Hz hjw=>?_
   repeat' (first|exact Ev.ret ⟨_,_,rfl,_,by assumption,by omega⟩| ((with_reducible first|refine Ev.lss (λhq=>?_) (λhq=>?_)|refine Ev.gtr (λhq=>?_) (λhq=>?_)|refine Ev.leq (λhq=>?_) (λhq=>?_)|refine Ev.geq (λhq=>?_) (λhq=>?_)|refine Ev.eql (λhq=>?_) (λhq=>?_)|refine Ev.neq (λhq=>?_) (λhq=>?_)|refine Ev.off ‹_› (λhq=>?_) (λhq=>?_)|refine Ev.aG (dx _) λz=>?_ |refine Ev.aG (iA _) λz=>?_ |refine Ev.aG (cS _ _) λz=>?_ |refine Ev.aG (bX _ _ _) λz=>?_ |refine Ev.aG (iJ _ _) λz=>?_ |refine Ev.aG (df _) λz=>?_ |refine Ev.aG (dk _ _ _ _) λz=>?_ |refine Ev.num (cQ ‹_› _) λz Hz mz hj hm=>?_ |refine Ev.num (fw ‹_› _ _) λz Hz mz hj hm=>?_ |refine Ev.num (fj ‹_› _) λz Hz mz hj hm=>?_ |refine Ev.num (fZ ‹_› _) λz Hz mz hj hm=>?_ |refine Ev.num (eV ‹_› _ _) λz Hz mz hj hm=>?_ |refine Ev.num (gP ‹_› _ _ _ _) λz Hz mz hj hm=>?_ |refine Ev.bool (fx ‹_› _ _ _) λz Hz mz hj hm=>?_ |refine Ev.un (cO ‹_› _ _) λz Hz mz hj hm=>?_ |refine Ev.un (fY ‹_› _) λz Hz mz hj hm=>?_ |refine Ev.dB (dj ‹_›) λz zb Hz mz hj hm=>?_ |refine Ev.dB (gO ‹_› _) λz zb Hz mz hj hm=>?_ |refine Ev.kc (dp ‹_› _ _) λz zb Hz mz hj hm=>?_ |refine Ev.num (iK _ ‹_› _) λz Hz mz hj hm=>?_ |refine Ev.wd (cP ‹_› _ _ _ _) λw Hz hj=>?_ |refine Ev.wd (cu ‹_›) λw Hz hj=>?_ |refine Ev.wd (cL ‹_› _ _) λw Hz hj=>?_ |refine Ev.wd (bM ‹_› _ _ _) λw Hz hj=>?_ |refine Ev.oP ‹_› λHz hj=>?_ |refine Ev.oQ ‹_› λHz hj=>?_ |refine Ev.nX ‹_› λz=>?_ |refine Ev.br (λhq=>?_) (λhq=>?_))<;>try simp -implicitDefEqProofs only[sS,Nat.reduceAdd]))
  ·simp only[List.getElem?_cons_succ,List.getElem?_cons_zero,Option.some.injEq] at e1 e2;subst e1 e2;show Ev (λ_=>some (Value.tuple #[cv 0,.bool false],H1)) _
   exact Ev.ret ⟨_,_,rfl,_,j8 hj,by omega⟩
end
end Go.Proofs.YtjgmnoaalbbonaaGreat.Fun
end
