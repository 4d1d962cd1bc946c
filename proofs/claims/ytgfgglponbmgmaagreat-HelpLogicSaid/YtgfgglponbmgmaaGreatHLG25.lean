/- Texts of the proof of helpLogic_holds, put together by a small program of ours (names shortened, spaces taken out). No condition beyond the given statement. -/
import Derived.Test.YtgfgglponbmgmaaGreatHLG15
import Derived.Test.YtgfgglponbmgmaaGreatHLG24
import Derived.Test.YtgfgglponbmgmaaGreatHLG13
import Derived.Test.YtgfgglponbmgmaaGreatHLG21
set_option linter.unusedVariables false
set_option linter.unusedSimpArgs false
set_option linter.unnecessarySimpa false
noncomputable section
section
namespace Go.Proofs.YtgfgglponbmgmaaGreat.Fun
open Go Go.RowKit Go.Proofs.YtgfgglponbmgmaaGreatA.Am
set_option maxRecDepth 10000
section
open Go.Proofs.YtgfgglponbmgmaaGreatA
variable {G:ae} {H H':aa} {o o':aj} {p:Nat} {K:aa→aj→Prop} {st LV s1:Y.St} {α β:Type}
theorem AV {a z:Int}{f:Nat}{s s':Y.St}(e:Y.ah (Y.kr f a) s=(z,s')):s'.left≤s.left-1:=by
 unfold Y.kr at e;rw[Y.ak] at e;have h1:(Y.ah (Y.rd a) s).2.left=s.left-1:=dj rfl;have h2:=dk e;omega
theorem Ld {a z:Int}{s s':Y.St}(e:Y.ah (Y.sd a) s=(z,s')):s'.left≤s.left-1:=by
 unfold Y.sd at e;rw[Y.ak] at e;have h1:(Y.ah (Y.rd a) s).2.left=s.left-1:=dj rfl;have h2:=dk e;omega
theorem JX.left (h:JX K p st H):st.left≤1048577:=by
 obtain⟨hK,o,⟨tape,w,T,W,i,nk,na,nx,ny,ty,g,ho,ht,hT,hw,hi,hr,_⟩,hk⟩:=h;unfold Y.St.left;split
 ·omega
 ·rw[hr];simp;omega
theorem AW {n d i all:Int}{f:Nat}{s:Y.St}{g:Int→Y.Tr β}(h:s.off=true∨¬i<d):Y.ah (Y.ir f n d i all >>= g) s=Y.ah (g all) s:=by
 cases f with
 |zero=>unfold Y.ir;rfl
 |succ f=>
  rw[Y.ak];unfold Y.ir;by_cases h1:i<d
  ·rw[if_neg (by omega)]
   have h2:=h.resolve_right (λx=>x h1)
   simp only[Y.ak,bk,bH,bL,cR,cS,ne_eq,not_true_eq_false,not_false_eq_true,if_true,if_false,Bool.not_true,Bool.not_false,true_and,and_true,false_and,and_false,true_or,or_true,false_or,or_false,Bool.false_eq_true,decide_true,decide_false,h2]
  ·rw[if_pos h1];rfl
theorem Ov {n d i all:Int}{f:Nat}{s:Y.St}{g:Int→Y.Tr β}(h:s.off=false)(h1:i<d):Y.ah (Y.ir (f+1) n d i all >>= g) s=Y.ah (Y.kr f (Y.dh n d i) >>= λw=>
  (if Y.kd w=2 then Y.ir f n d (i+1) (Y.wr (all+1)) else
  if Y.kd w=3 then Y.jV f (Y.aw w) >>= λz=>Y.ir f n d (i+1) (Y.wr (all+z))
  else if Y.kd w=4 then Y.rd (Y.aw w) >>= λt=>Y.jV f (Y.aw t) >>= λz=>Y.ir f n d (i+1) (Y.wr (all+z))
  else Y.ir f n d (i+1) all) >>= g) s:=by
 rw[Y.ak]
 conv=>lhs;unfold Y.ir
 rw[if_neg (by omega)]
 simp only[Y.ak,bk,bH,bL,cR,cS,ne_eq,not_true_eq_false,not_false_eq_true,if_true,if_false,Bool.not_true,Bool.not_false,true_and,and_true,false_and,and_false,true_or,or_true,false_or,or_false,Bool.false_eq_true,decide_true,decide_false,h]
theorem Xc: ∀(f:Nat) {st:Y.St} {H:aa},JX K p st H→st.left≤f→∀{a:Int},(-9223372036854775808≤a∧a≤65536)→aE (run G) 121 [pv p,cv a] H (oP K p st (Y.jV (f+1) a)):=by
 intro f;induction f using Nat.strongRecOn with
 |ind f ih=>
 intro st H h hf a ha;have w4: ∀{j:Int},0≤j∧j≤8→IntKind.i64.wrap (a+j)=a+j:=λhj=>by rw[fL (by omega)]
 refine Ev.up (t:=λn=>WT (run G n) n (pv p) (cv a) H) ?_ λn=>Rv ..
 simp -implicitDefEqProofs only[WT,sS,Nat.reduceAdd,w4 (j:=4) (by omega)]
 refine Ev.eS (cX h _) λq1 s1 H1 e1 fv=>?_
 try simp -implicitDefEqProofs only[sS,Nat.reduceAdd]
 refine Ev.neq (λh1=>?_) (λh1=>?_)<;>try simp -implicitDefEqProofs only[sS,Nat.reduceAdd,cI]
 ·refine Ev.ret (oP.of fv ?_);unfold Y.jV;simp only[Y.ak,bk,bH,bL,cR,cS,ne_eq,not_true_eq_false,not_false_eq_true,if_true,if_false,Bool.not_true,Bool.not_false,true_and,and_true,false_and,and_false,true_or,or_true,false_or,or_false,Bool.false_eq_true,decide_true,decide_false, *]
 rw[←cI,w4 (j:=2) (by omega)]
 refine Ev.Yu (Cx fv _ _) λv u s2 H2 e2 fH=>?_
 try simp -implicitDefEqProofs only[sS,Nat.reduceAdd]
 refine Ev.eS (cX fH _) λd s3 H3 e3 gA=>?_
 try simp -implicitDefEqProofs only[sS,Nat.reduceAdd]
 have l1:=dj e1;have l2:=dk e2;have l3:=dj e3;have Yv:=h.left;have B:Y.ah (Y.jV (f+1) a) st=Y.ah (Y.ir f a d 0 0 >>= λall=>Y.wt (a+4) (Y.wr (all+1)) >>= λ_=>pure all) s3:=by
  conv=>lhs;unfold Y.jV
  simp only[Y.ak,bk,bH,bL,cR,cS,ne_eq,not_true_eq_false,not_false_eq_true,if_true,if_false,Bool.not_true,Bool.not_false,true_and,and_true,false_and,and_false,true_or,or_true,false_or,or_false,Bool.false_eq_true,decide_true,decide_false,e1,e2,e3,h1]
 have hinv:s3.left+1≤f∨s3.off=true:=by
  by_cases ho:s3.off=true
  ·exact .inr ho
  ·have:1≤s3.left:=iE (by simpa using ho)
   exact .inl (by omega)
 refine Ev.loop (k:=s3.left) (λk vs Hx=>∃(i s:Int) (sx:Y.St) (fx:Nat) (x4 x5 aW bP x9 dv cQ dR aC fh:Value),vs=[pv p,cv a,x4,x5,aW,cv i,cv d,bP,x9,dv,cQ,cv s,dR,aC,fh]∧JX K p sx Hx∧k=sx.left∧fx≤f∧(sx.left+1≤fx∨sx.off=true)∧0≤i∧i+sx.left≤st.left∧Y.ah (Y.jV (f+1) a) st=Y.ah (Y.ir fx a d i s >>= λall=>Y.wt (a+4) (Y.wr (all+1)) >>= λ_=>pure all) sx)
  (λr=>r.1= .exit 0∧∃(i s:Int) (sx:Y.St) (x4 x5 aW bP x9 dv cQ dR aC fh:Value),r.2.1=[pv p,cv a,x4,x5,aW,cv i,cv d,bP,x9,dv,cQ,cv s,dR,aC,fh]∧JX K p sx r.2.2∧Y.ah (Y.jV (f+1) a) st=Y.ah (Y.wt (a+4) (Y.wr (s+1)) >>= λ_=>pure s) sx) ⟨0,0,s3,f,_,_,_,_,_,_,_,_,_,_,rfl,gA,rfl,Nat.le_refl _,hinv,by omega,by omega,B⟩ ?_ ?_
 ·rintro k vs Hx ⟨i,s,sx,fx,x4,x5,aW,bP,x9,dv,cQ,dR,aC,fh,rfl,hj,rfl,W8,pd,hi,Yt,E⟩;simp -implicitDefEqProofs only[KJ,yn,sS,Nat.reduceAdd];refine Ev.lss (λh2=>?_) (λh2=>?_)<;>try simp -implicitDefEqProofs only[sS,Nat.reduceAdd]
  ·refine Ev.nW hj (λhq=>?_) (λhq=>?_)<;>try simp -implicitDefEqProofs only[sS,Nat.reduceAdd]
   ·rw[AW (.inl hq)] at E;exact Ev.ret (.inr ⟨by simp,rfl,i,s,sx,_,_,_,_,_,_,_,_,_,_,rfl,hj,E⟩)
   have l4:=iE hq;have Ow:sx.left+1≤fx:=pd.resolve_right (by rw[hq];simp)
   obtain⟨fy,rfl⟩: ∃fy,fx=fy+2:=⟨fx-2,by omega⟩
   rw[Ov hq h2] at E;refine Ev.is (kK _ _ _) ?_;refine Ev.eS (FV hj (f:=fy+1) (by omega) _) λw t1 G1 f1 k1=>?_
   have m1:=AV f1;rw[Y.aJ f1] at E
   try simp -implicitDefEqProofs only[sS,Nat.reduceAdd]
   refine Ev.is (nX _) ?_
   try simp -implicitDefEqProofs only[sS,Nat.reduceAdd]
   refine Ev.is (gV _) ?_
   try simp -implicitDefEqProofs only[sS,Nat.reduceAdd]
   have wi:IntKind.i64.wrap (i+1)=i+1:=fL (by omega)
   have RZ: ∀{s':Int} {sy:Y.St} {Hy:aa} {x4 x5 aW bP x9 dv cQ dR aC fh:Value},JX K p sy Hy→sy.left≤sx.left-1→Y.ah (Y.jV (f+1) a) st=Y.ah (Y.ir (fy+1) a d (i+1) s' >>= λall=>Y.wt (a+4) (Y.wr (all+1)) >>= λ_=>pure all) sy→
     Ev (λn=>px (run G n) n [pv p,cv a,x4,x5,aW,cv i,cv d,bP,x9,dv,cQ,cv s',dR,aC,fh] Hy) λr=>(r.1= .normal∧∃k',k'<sx.left∧∃(i s:Int) (sx:Y.St) (fx:Nat) (x4 x5 aW bP x9 dv cQ dR aC fh:Value),r.2.1=[pv p,cv a,x4,x5,aW,cv i,cv d,bP,x9,dv,cQ,cv s,dR,aC,fh]∧JX K p sx r.2.2∧k'=sx.left∧fx≤f∧(sx.left+1≤fx∨sx.off=true)∧0≤i∧i+sx.left≤st.left∧Y.ah (Y.jV (f+1) a) st=Y.ah (Y.ir fx a d i s >>= λall=>Y.wt (a+4) (Y.wr (all+1)) >>= λ_=>pure all) sx)∨(r.1≠ .normal∧r.1= .exit 0∧∃(i s:Int) (sx:Y.St) (x4 x5 aW bP x9 dv cQ dR aC fh:Value),r.2.1=[pv p,cv a,x4,x5,aW,cv i,cv d,bP,x9,dv,cQ,cv s,dR,aC,fh]∧JX K p sx r.2.2∧Y.ah (Y.jV (f+1) a) st=Y.ah (Y.wt (a+4) (Y.wr (s+1)) >>= λ_=>pure s) sx):=by
    intro s' sy Hy x4 x5 aW bP x9 dv cQ dR aC fh hy ly Ey;simp -implicitDefEqProofs only[KI,ym,sS,Nat.reduceAdd,wi];exact Ev.ret (.inl ⟨rfl,sy.left,by omega,i+1,s',sy,fy+1,_,_,_,_,_,_,_,_,_,_,rfl,hy,rfl,by omega,.inl (by omega),by omega,by omega,Ey⟩)
   refine Ev.eql (λk2=>?_) (λk2=>?_)<;>try simp -implicitDefEqProofs only[sS,Nat.reduceAdd,cI]
   ·rw[if_pos k2] at E;exact RZ k1 m1 E
   refine Ev.eql (λk3=>?_) (λk3=>?_)<;>try simp -implicitDefEqProofs only[sS,Nat.reduceAdd,cI]
   ·rw[if_neg k2,if_pos k3] at E;refine Ev.eS (ih fy (by omega) k1 (by omega) (nM _)) λz t2 G2 f2 Z9=>?_
    have m2:=dk f2;simp only[Y.bind_assoc] at E;rw[Y.aJ f2] at E
    try simp -implicitDefEqProofs only[sS,Nat.reduceAdd,cI]
    exact RZ Z9 (by omega) E
   refine Ev.eql (λk4=>?_) (λk4=>?_)<;>try simp -implicitDefEqProofs only[sS,Nat.reduceAdd,cI]
   ·rw[if_neg k2,if_neg k3,if_pos k4] at E;refine Ev.eS (cX k1 _) λtt t2 G2 f2 Z9=>?_
    have m2:=dj f2;simp only[Y.bind_assoc] at E;rw[Y.aJ f2] at E
    try simp -implicitDefEqProofs only[sS,Nat.reduceAdd,cI]
    refine Ev.is (nX _) ?_;refine Ev.eS (ih fy (by omega) Z9 (by omega) (nM _)) λz t3 G3 f3 k3'=>?_
    have m3:=dk f3;rw[Y.aJ f3] at E
    try simp -implicitDefEqProofs only[sS,Nat.reduceAdd,cI]
    exact RZ k3' (by omega) E
   ·rw[if_neg k2,if_neg k3,if_neg k4] at E;exact RZ k1 m1 E
  ·rw[AW (.inr h2)] at E;exact Ev.ret (.inr ⟨by simp,rfl,i,s,sx,_,_,_,_,_,_,_,_,_,_,rfl,hj,E⟩)
 ·rintro e vs Hx ⟨rfl,i,s,sx,x4,x5,aW,bP,x9,dv,cQ,dR,aC,fh,hv,hj,E⟩;simp only at hv hj;subst hv;simp -implicitDefEqProofs only[KK,yo,sS,Nat.reduceAdd,w4 (j:=4) (by omega)]
  refine Ev.Yu (Cx hj _ _) λv u s4 H4 e4 iW=>?_
  try simp -implicitDefEqProofs only[sS,Nat.reduceAdd]
  refine Ev.ret (oP.of iW ?_);rw[E];rw[cI] at e4;simp only[Y.ak,bk,bH,bL,cR,cS,ne_eq,not_true_eq_false,not_false_eq_true,if_true,if_false,Bool.not_true,Bool.not_false,true_and,and_true,false_and,and_false,true_or,or_true,false_or,or_false,Bool.false_eq_true,decide_true,decide_false,e4]
end
section
variable {G:ae} {H H':aa} {o o':aj} {p m c:Nat} {K:aa→aj→Prop} {t:Int} {x:Value} {l:PL}
def KO (K:aa→aj→Prop)(t:Int)(x:Value)(l:PL):aa→aj→Prop:=λH o=>K H o∧gS H o t x l
structure oS (t:Int) (p:Nat):Prop where
 ne:t≠p
 n0:t≠ -50
 n1:t≠ -51
theorem gS.fr {H H':aa}{o o':aj}{q:Int}{x:Value}{l:PL}{ps:List Int}(h:gS H o q x l)(f:Fr H o H' o' ps)(hp:q ∉ ps):gS H' o' q x l:=by
 rcases h with h|⟨i,cap,rest,ty,h1,h2,h3,h4⟩
 ·exact .inl h
 ·exact .inr ⟨i,cap,rest,ty,h1,by rw[f.same i (ar h2) (by rw[h4];exact hp)];exact h2,h3,by rw[f.own i (ar h2)];exact h4⟩
theorem bJ.ko (ht:oS t p)(h:bJ [(p:Int),t] K):bJ [(p:Int)] (KO K t x l):=λH o H' o' a f=>⟨h H o H' o' a.1 (f.wk (by simp)),gS.fr a.2 f (by simpa using ht.ne)⟩
section
variable {α:Type} {k:Nat→Value→aa→Option α} {Q:α→Prop} {a b:Int} {T ty:TypeId} {C:Nat→ae} {f:Nat} {args:List Value}
end
theorem yS (a b:Int):aF Tryz.prog 45 [(0,cv a),(1,cv b)]=some (.agg #[cv a,cv b]):=by kernel_rfl
theorem F2 (a b:Int)(H:aa):ay Tryz.prog 31 1 [(0,.agg #[cv a,cv b])] H=some (.slice (some ⟨H.length,0,none⟩) 1 1,H.new ⟨[cv a,cv b],45,2,false⟩):=by kernel_rfl
end
section
open Go.Proofs.YtgfgglponbmgmaaGreatA
variable {G:ae} {H H':aa} {o o':aj} {p c:Nat} {K:aa→aj→Prop} {t:Int} {x:Value} {l:PL} {st LV s1:Y.St} {α β:Type}
abbrev GX (K:aa→aj→Prop)(t:Int)(c p:Nat)(st:Y.St)(tr:Y.Tr PL):Value→aa→Prop:=λv H'=>JX (KO K t v (Y.ah tr st).1) p (Y.ah tr st).2 H'∧(Y.ah tr st).1.length+(Y.ah tr st).2.left≤c
section
variable {k:Nat→Value→aa→Option α} {Q:α→Prop} {a b:Int} {T ty:TypeId} {C:Nat→ae} {f:Nat} {args:List Value}
theorem Ev.aaa (hK:bJ [(p:Int),t] K)(ht:oS t p)(h:JX (KO K t x l) p st H)(hb:l.length+1≤4294967296)(hk: ∀x' H',JX (KO K t x' (l++[(a,b)])) p st H'→Ev (λn=>k n x' H') Q):
  Ev (λn=>af (de T 2 16 x (.slice (some ⟨H.length,0,none⟩) 1 1) (H.new ⟨[cv a,cv b],ty,2,false⟩)) (k n)) Q:=by
 obtain⟨hJ,o,hr,Dh,hs⟩:=h;have f1:Fr H o (H.new ⟨[cv a,cv b],ty,2,false⟩) (o.up H.length (-9)) [t]:=(Fr.refl H o [t]).new _ _;have Xd:Fr H o (H.new ⟨[cv a,cv b],ty,2,false⟩) (o.up H.length (-9)) []:=(Fr.refl H o []).new _ _;obtain⟨x',H2,o2,e,s2,f2,_⟩:=gS.app (y:=.slice (some ⟨H.length,0,none⟩) 1 1) (m:=[(a,b)]) T (gS.fr hs Xd (by simp)) (Src.one (aL)) (by simpa using hb)
 rw[e];have f3:=f1.tr f2;refine hk x' H2 ⟨bJ.ko ht hK,o2,hr.fr f3 ?_ ?_ ?_,hK _ _ _ _ Dh (f3.wk (by simp)),s2⟩
 ·simp;exact λe=>ht.ne e.symm
 ·simp;exact λe=>ht.n0 e.symm
 ·simp;exact λe=>ht.n1 e.symm
theorem Ev.aab {tr:Y.Tr PL}(h:aE C f args H (GX K t c p st tr))(hk: ∀x l s1 H',Y.ah tr st=(l,s1)→JX (KO K t x l) p s1 H'→l.length+s1.left≤c→Ev (λn=>k n x H') Q):Ev (λn=>af (C n f args H) (k n)) Q:=
 Ev.call h λv H' hq=>hk v _ _ H' rfl hq.1 hq.2
end
theorem oT {n d fr to i r:Int}{l:PL}{f:Nat}{s:Y.St}(h:s.off=true∨¬i<d∨¬r<to):Y.ah (Y.cW f n d fr to i r l) s=(l,s):=by
 cases f with
 |zero=>unfold Y.cW;rfl
 |succ f=>
  unfold Y.cW;by_cases h1:i<d
  ·rw[if_neg (by omega)]
   by_cases h2:r<to
   ·rw[if_neg (by omega)]
    have h3:s.off=true:=by
     rcases h with h|h|h
     ·exact h
     ·exact absurd h1 h
     ·exact absurd h2 h
    simp only[Y.ak,bk,bH,bL,cR,cS,ne_eq,not_true_eq_false,not_false_eq_true,if_true,if_false,Bool.not_true,Bool.not_false,true_and,and_true,false_and,and_false,true_or,or_true,false_or,or_false,Bool.false_eq_true,decide_true,decide_false,h3]
   ·rw[if_pos h2];rfl
  ·rw[if_pos h1];rfl
theorem F3 {n d fr to i kX:Int}{out:PL}{f:Nat}{s:Y.St}(h:s.off=false)(h1:i<d)(h2:kX<to):Y.ah (Y.cW (f+1) n d fr to i kX out) s=Y.ah (Y.sd (Y.dh n d i) >>= λw=>
  if Y.kd w=2 then
   (if kX≥fr then Y.rd (Y.aw w) >>= λk=>Y.rd (Y.aw w+1) >>= λv=>Y.cW f n d fr to (i+1) (Y.wr (kX+1)) (out++[(k,v)])
   else Y.cW f n d fr to (i+1) (Y.wr (kX+1)) out)
  else if Y.kd w=3∨Y.kd w=4 then
   (if Y.kd w=4 then(Y.rd (Y.aw w) >>= λt=>pure (Y.aw t)) else pure (Y.aw w)) >>= λa=>Y.rd (a+4) >>= λz=>
   (if Y.wr (kX+Y.wr (z-1))>fr then Y.gJ f a (Y.wr (fr-kX)) (Y.wr (to-kX)) out else pure out) >>= λo=>
   Y.cW f n d fr to (i+1) (Y.wr (kX+Y.wr (z-1))) o
  else Y.cW f n d fr to (i+1) kX out) s:=by
 conv=>lhs;unfold Y.cW
 rw[if_neg (by omega),if_neg (by omega)]
 simp only[Y.ak,bk,bH,bL,cR,cS,ne_eq,not_true_eq_false,not_false_eq_true,if_true,if_false,Bool.not_true,Bool.not_false,true_and,and_true,false_and,and_false,true_or,or_true,false_or,or_false,Bool.false_eq_true,decide_true,decide_false,h]
theorem Le (hK:bJ [(p:Int),t] K)(ht:oS t p)(hc:c≤2147483648){a b d dd:Int}{f S:Nat}(hS:S≤1048577){T:PL×Y.St}(ih: ∀f',f'<f→∀{x:Value} {l:PL} {st:Y.St} {H:aa},JX (KO K t x l) p st H→st.left≤f'→l.length+st.left≤c→∀{a:Int},(-9223372036854775808≤a∧a≤65536)→∀b d,aE (run G) 122 [pv p,cv a,cv b,cv d,x] H (GX K t c p st (Y.gJ (f'+1) a b d l)))(k:Nat)(v0:List Value)(Hx:aa)(hi:(λ(k:Nat) (vs:List Value) (Hx:aa)=>∃(i r:Int) (x:Value) (l:PL) (sx:Y.St) (fx:Nat) (aC cj aM cQ cx dw aT aW bf gL fO aU fD:Value),vs=[pv p,cv a,cv b,cv d,x,aC,cv i,cv dd,cv r,cj,aM,cQ,cx,dw,aT,aW,bf,gL,fO,aU,fD]∧JX (KO K t x l) p sx Hx∧k=sx.left∧fx≤f∧(sx.left+1≤fx∨sx.off=true)∧0≤i∧i+sx.left≤S∧l.length+sx.left≤c∧T=Y.ah (Y.cW fx a dd b d i r l) sx) k v0 Hx):
  Ev (λn=>vd (run G n) n v0 Hx) λr=>(r.1= .normal∧∃k',k'<k∧(λ(k:Nat) (vs:List Value) (Hx:aa)=>∃(i r:Int) (x:Value) (l:PL) (sx:Y.St) (fx:Nat) (aC cj aM cQ cx dw aT aW bf gL fO aU fD:Value),vs=[pv p,cv a,cv b,cv d,x,aC,cv i,cv dd,cv r,cj,aM,cQ,cx,dw,aT,aW,bf,gL,fO,aU,fD]∧JX (KO K t x l) p sx Hx∧k=sx.left∧fx≤f∧(sx.left+1≤fx∨sx.off=true)∧0≤i∧i+sx.left≤S∧l.length+sx.left≤c∧T=Y.ah (Y.cW fx a dd b d i r l) sx) k' r.2.1 r.2.2)∨(r.1≠ .normal∧(λ(r:bE×List Value×aa)=>r.1= .exit 0∧∃(x i r':Value) (l:PL) (sx:Y.St) (aC cj aM cQ cx dw aT aW bf gL fO aU fD:Value),r.2.1=[pv p,cv a,cv b,cv d,x,aC,i,cv dd,r',cj,aM,cQ,cx,dw,aT,aW,bf,gL,fO,aU,fD]∧JX (KO K t x l) p sx r.2.2∧l.length+sx.left≤c∧T=(l,sx)) r):=by
 obtain⟨i,r,x,l,sx,fx,aC,cj,aM,cQ,cx,dw,aT,aW,bf,gL,fO,aU,fD,rfl,hj,rfl,W8,pd,hi0,Yt,hl,E⟩:=hi;have wi:sx.off=false→IntKind.i64.wrap (i+1)=i+1:=λh=>fL (by have:=iE h;omega)
 simp -implicitDefEqProofs only[Ju,wW,sS,Nat.reduceAdd];refine Ev.lss (λh1=>?_) (λh1=>?_)<;>try simp -implicitDefEqProofs only[sS,Nat.reduceAdd]
 rotate_left
 ·rw[oT (.inr (.inl h1))] at E;exact Ev.ret (.inr ⟨by simp,rfl,x,_,_,l,sx,_,_,_,_,_,_,_,_,_,_,_,_,_,rfl,hj,hl,E⟩)
 refine Ev.lss (λh2=>?_) (λh2=>?_)<;>try simp -implicitDefEqProofs only[sS,Nat.reduceAdd]
 rotate_left
 ·rw[oT (.inr (.inr h2))] at E;exact Ev.ret (.inr ⟨by simp,rfl,x,_,_,l,sx,_,_,_,_,_,_,_,_,_,_,_,_,_,rfl,hj,hl,E⟩)
 refine Ev.nW hj (λhq=>?_) (λhq=>?_)<;>try simp -implicitDefEqProofs only[sS,Nat.reduceAdd]
 ·rw[oT (.inl hq)] at E;exact Ev.ret (.inr ⟨by simp,rfl,x,_,_,l,sx,_,_,_,_,_,_,_,_,_,_,_,_,_,rfl,hj,hl,E⟩)
 have wi':=wi hq;have l4:=iE hq;have Ow:sx.left+1≤fx:=pd.resolve_right (by rw[hq];simp)
 obtain⟨fy,rfl⟩: ∃fy,fx=fy+2:=⟨fx-2,by omega⟩
 rw[F3 hq h1 h2] at E;have L2: ∀{x:Value} {l:PL} {sy:Y.St} {Hy:aa} {r:Int} {aC cj aM cQ cx dw aT aW bf gL fO aU fD:Value},JX (KO K t x l) p sy Hy→sy.left≤sx.left-1→l.length+sy.left≤c→T=Y.ah (Y.cW (fy+1) a dd b d (i+1) r l) sy→
   Ev (λn=>pf (run G n) n [pv p,cv a,cv b,cv d,x,aC,cv i,cv dd,cv r,cj,aM,cQ,cx,dw,aT,aW,bf,gL,fO,aU,fD] Hy) λr=>(r.1= .normal∧∃k',k'<sx.left∧(λ(k:Nat) (vs:List Value) (Hx:aa)=>∃(i r:Int) (x:Value) (l:PL) (sx:Y.St) (fx:Nat) (aC cj aM cQ cx dw aT aW bf gL fO aU fD:Value),vs=[pv p,cv a,cv b,cv d,x,aC,cv i,cv dd,cv r,cj,aM,cQ,cx,dw,aT,aW,bf,gL,fO,aU,fD]∧JX (KO K t x l) p sx Hx∧k=sx.left∧fx≤f∧(sx.left+1≤fx∨sx.off=true)∧0≤i∧i+sx.left≤S∧l.length+sx.left≤c∧T=Y.ah (Y.cW fx a dd b d i r l) sx) k' r.2.1 r.2.2)∨(r.1≠ .normal∧(λ(r:bE×List Value×aa)=>r.1= .exit 0∧∃(x i r':Value) (l:PL) (sx:Y.St) (aC cj aM cQ cx dw aT aW bf gL fO aU fD:Value),r.2.1=[pv p,cv a,cv b,cv d,x,aC,i,cv dd,r',cj,aM,cQ,cx,dw,aT,aW,bf,gL,fO,aU,fD]∧JX (KO K t x l) p sx r.2.2∧l.length+sx.left≤c∧T=(l,sx)) r):=by
  intro x l sy Hy r aC cj aM cQ cx dw aT aW bf gL fO aU fD hy ly hly Ey;simp -implicitDefEqProofs only[Jr,wT,sS,Nat.reduceAdd,wi'];exact Ev.ret (.inl ⟨rfl,sy.left,by omega,i+1,r,x,l,sy,fy+1,_,_,_,_,_,_,_,_,_,_,_,_,_,rfl,hy,rfl,by omega,.inl (by omega),by omega,by omega,hly,Ey⟩)
 refine Ev.is (kK _ _ _) ?_;refine Ev.eS (Oi hj _) λw t1 G1 f1 k1=>?_
 have m1:=Ld f1;rw[Y.aJ f1] at E
 try simp -implicitDefEqProofs only[sS,Nat.reduceAdd]
 refine Ev.is (nX _) ?_
 try simp -implicitDefEqProofs only[sS,Nat.reduceAdd]
 refine Ev.is (gV _) ?_
 try simp -implicitDefEqProofs only[sS,Nat.reduceAdd]
 refine Ev.eql (λk2=>?_) (λk2=>?_)<;>try simp -implicitDefEqProofs only[sS,Nat.reduceAdd]
 ·rw[if_pos k2] at E;refine Ev.geq (λh3=>?_) (λh3=>?_)<;>try simp -implicitDefEqProofs only[sS,Nat.reduceAdd]
  ·rw[if_pos h3] at E;refine Ev.eS (cX k1 _) λkk t2 G2 f2 Z9=>?_
   have m2:=dj f2;rw[Y.aJ f2] at E
   try simp -implicitDefEqProofs only[sS,Nat.reduceAdd,LW _ (j:=1) (by omega)]
   refine Ev.eS (cX Z9 _) λvv t3 G3 f3 k3'=>?_
   have m3:=dj f3;rw[Y.aJ f3] at E
   try simp -implicitDefEqProofs only[sS,Nat.reduceAdd]
   simp -implicitDefEqProofs only[yS,F2,sS,Nat.reduceAdd];refine Ev.aaa hK ht k3' (by omega) λx' H' y9=>?_
   try simp -implicitDefEqProofs only[sS,Nat.reduceAdd]
   simp -implicitDefEqProofs only[Au,rK,sS,Nat.reduceAdd,cI];exact L2 y9 (by omega) (by simp;omega) E
  ·rw[if_neg h3] at E;simp -implicitDefEqProofs only[Au,rK,sS,Nat.reduceAdd,cI];exact L2 k1 (by omega) (by omega) E
 rw[if_neg k2] at E;have L5: ∀{y:Int} {s4:Y.St} {H4:aa} {aC cj aM cQ cx dw aW bf gL fO aU fD:Value},(-9223372036854775808≤y∧y≤65536)→JX (KO K t x l) p s4 H4→s4.left≤t1.left→T=Y.ah (Y.rd (y+4) >>= λz=>
   (if Y.wr (r+Y.wr (z-1))>b then Y.gJ (fy+1) y (Y.wr (b-r)) (Y.wr (d-r)) l else pure l) >>= λo=>
   Y.cW (fy+1) a dd b d (i+1) (Y.wr (r+Y.wr (z-1))) o) s4→
   Ev (λn=>rM (run G n) n [pv p,cv a,cv b,cv d,x,aC,cv i,cv dd,cv r,cj,aM,cQ,cx,dw,cv y,aW,bf,gL,fO,aU,fD] H4) λr=>(r.1= .normal∧∃k',k'<sx.left∧(λ(k:Nat) (vs:List Value) (Hx:aa)=>∃(i r:Int) (x:Value) (l:PL) (sx:Y.St) (fx:Nat) (aC cj aM cQ cx dw aT aW bf gL fO aU fD:Value),vs=[pv p,cv a,cv b,cv d,x,aC,cv i,cv dd,cv r,cj,aM,cQ,cx,dw,aT,aW,bf,gL,fO,aU,fD]∧JX (KO K t x l) p sx Hx∧k=sx.left∧fx≤f∧(sx.left+1≤fx∨sx.off=true)∧0≤i∧i+sx.left≤S∧l.length+sx.left≤c∧T=Y.ah (Y.cW fx a dd b d i r l) sx) k' r.2.1 r.2.2)∨(r.1≠ .normal∧(λ(r:bE×List Value×aa)=>r.1= .exit 0∧∃(x i r':Value) (l:PL) (sx:Y.St) (aC cj aM cQ cx dw aT aW bf gL fO aU fD:Value),r.2.1=[pv p,cv a,cv b,cv d,x,aC,i,cv dd,r',cj,aM,cQ,cx,dw,aT,aW,bf,gL,fO,aU,fD]∧JX (KO K t x l) p sx r.2.2∧l.length+sx.left≤c∧T=(l,sx)) r):=by
  intro y s4 H4 aC cj aM cQ cx dw aW bf gL fO aU fD hy iW l4' E;have wy:IntKind.i64.wrap (y+4)=y+4:=fL (by omega)
  simp -implicitDefEqProofs only[Js,wU,sS,Nat.reduceAdd,wy];refine Ev.eS (cX iW _) λz s5 H5 e5 kh=>?_
  have m5:=dj e5;rw[Y.aJ e5] at E
  try simp -implicitDefEqProofs only[sS,Nat.reduceAdd,cI]
  refine Ev.gtr (λh6=>?_) (λh6=>?_)<;>try simp -implicitDefEqProofs only[sS,Nat.reduceAdd,cI]
  ·rw[if_pos h6] at E;refine Ev.aab (ih fy (by omega) kh (by omega) (by omega) hy _ _) λx' l' s6 H6 e6 n8 TF=>?_
   have m6:=dk e6;rw[Y.aJ e6] at E
   try simp -implicitDefEqProofs only[sS,Nat.reduceAdd,cI]
   simp -implicitDefEqProofs only[Av,rL,sS,Nat.reduceAdd,cI];exact L2 n8 (by omega) TF E
  ·rw[if_neg h6] at E;simp -implicitDefEqProofs only[Av,rL,sS,Nat.reduceAdd,cI];exact L2 kh (by omega) (by omega) E
 refine Ev.eql (λk3=>?_) (λk3=>?_)<;>try simp -implicitDefEqProofs only[sS,Nat.reduceAdd]
 ·rw[if_pos (.inl k3),if_neg (by omega),Y.bind_pure] at E
  simp -implicitDefEqProofs only[tj,oG,sS,Nat.reduceAdd];refine Ev.is (gV _) ?_
  try simp -implicitDefEqProofs only[sS,Nat.reduceAdd]
  refine Ev.eql (λk4=>?_) (λk4=>?_)<;>try simp -implicitDefEqProofs only[sS,Nat.reduceAdd]
  ·omega
  ·exact L5 (nM _) k1 (by omega) E
 refine Ev.eql (λk4=>?_) (λk4=>?_)<;>try simp -implicitDefEqProofs only[sS,Nat.reduceAdd]
 ·rw[if_pos (.inr k4),if_pos k4] at E;simp only[Y.bind_assoc] at E;simp -implicitDefEqProofs only[tj,oG,sS,Nat.reduceAdd];refine Ev.is (gV _) ?_
  try simp -implicitDefEqProofs only[sS,Nat.reduceAdd]
  refine Ev.eql (λk5=>?_) (λk5=>?_)<;>try simp -implicitDefEqProofs only[sS,Nat.reduceAdd]
  ·refine Ev.eS (cX k1 _) λtt s4 H4 e4 iW=>?_
   have m4:=dj e4;rw[Y.aJ e4,Y.bind_pure] at E
   try simp -implicitDefEqProofs only[sS,Nat.reduceAdd]
   refine Ev.is (nX _) ?_
   try simp -implicitDefEqProofs only[sS,Nat.reduceAdd]
   exact L5 (nM _) iW (by omega) E
  ·exact absurd k4 k5
 ·rw[if_neg (by omega)] at E
  simp -implicitDefEqProofs only[tj,oG,sS,Nat.reduceAdd];exact L2 k1 (by omega) (by omega) E
theorem Ox (hK:bJ [(p:Int),t] K)(ht:oS t p)(hc:c≤2147483648): ∀(f:Nat) {x:Value} {l:PL} {st:Y.St} {H:aa},JX (KO K t x l) p st H→st.left≤f→l.length+st.left≤c→∀{a:Int},(-9223372036854775808≤a∧a≤65536)→∀b d,aE (run G) 122 [pv p,cv a,cv b,cv d,x] H (GX K t c p st (Y.gJ (f+1) a b d l)):=by
 intro f;induction f using Nat.strongRecOn with
 |ind f ih=>
 intro x l st H h hf hl a ha b d;refine Ev.up (t:=λn=>U2 (run G n) n (pv p) (cv a) (cv b) (cv d) x H) ?_ λn=>Qo ..
 simp -implicitDefEqProofs only[U2,sS,Nat.reduceAdd];refine Ev.eS (cX h a) λdd s1 H1 e1 fv=>?_
 have l1:=dj e1;have Yv:=h.left;have hinv:s1.left+1≤f∨s1.off=true:=by
  by_cases ho:s1.off=true
  ·exact .inr ho
  ·have:1≤s1.left:=iE (by simpa using ho)
   exact .inl (by omega)
 have B:Y.ah (Y.gJ (f+1) a b d l) st=Y.ah (Y.cW f a dd b d 0 0 l) s1:=by
  conv=>lhs;unfold Y.gJ
  simp only[Y.ak,bk,bH,bL,cR,cS,ne_eq,not_true_eq_false,not_false_eq_true,if_true,if_false,Bool.not_true,Bool.not_false,true_and,and_true,false_and,and_false,true_or,or_true,false_or,or_false,Bool.false_eq_true,decide_true,decide_false,e1]
 generalize hT:Y.ah (Y.gJ (f+1) a b d l) st=T at B
 try simp -implicitDefEqProofs only[sS,Nat.reduceAdd]
 refine Ev.loop (k:=s1.left) (λk vs Hx=>∃(i r:Int) (x:Value) (l:PL) (sx:Y.St) (fx:Nat) (aC cj aM cQ cx dw aT aW bf gL fO aU fD:Value),vs=[pv p,cv a,cv b,cv d,x,aC,cv i,cv dd,cv r,cj,aM,cQ,cx,dw,aT,aW,bf,gL,fO,aU,fD]∧JX (KO K t x l) p sx Hx∧k=sx.left∧fx≤f∧(sx.left+1≤fx∨sx.off=true)∧0≤i∧i+sx.left≤st.left∧l.length+sx.left≤c∧T=Y.ah (Y.cW fx a dd b d i r l) sx) (λr=>r.1= .exit 0∧∃(x i r':Value) (l:PL) (sx:Y.St) (aC cj aM cQ cx dw aT aW bf gL fO aU fD:Value),r.2.1=[pv p,cv a,cv b,cv d,x,aC,i,cv dd,r',cj,aM,cQ,cx,dw,aT,aW,bf,gL,fO,aU,fD]∧JX (KO K t x l) p sx r.2.2∧l.length+sx.left≤c∧T=(l,sx)) ⟨0,0,x,l,s1,f,_,_,_,_,_,_,_,_,_,_,_,_,_,rfl,fv,rfl,Nat.le_refl _,hinv,by omega,by omega,by omega,B⟩ ?_ ?_
 ·intro k vs Hx hi;exact Le (S:=st.left) hK ht hc Yv (λf' Bk _ _ _ _ a1 a2 a3 _ a4 b d=>ih f' Bk a1 a2 a3 a4 b d) k vs Hx hi
 ·rintro e vs H2 ⟨rfl,x',i',r',l',sx,aC,cj,aM,cQ,cx,dw,aT,aW,bf,gL,fO,aU,fD,hv,hj,hl',E⟩;simp only at hv hj;subst hv;simp -implicitDefEqProofs only[Jq,wS,sS,Nat.reduceAdd];refine Ev.ret ?_;show JX _ _ _ _∧_
  rw[hT,E];exact⟨hj,hl'⟩
end
section
variable {G:ae} {H H':aa} {o o':aj} {p m c:Nat} {K:aa→aj→Prop} {t:Int} {x:Value} {l:PL}
theorem Oy {s:Value}{cs:List Int}(T ty:TypeId)(a:Int)(hs:oJ H o t s cs)(hb:cs.length+1≤4294967296):
  ∃s' H2 o2,de T 1 8 s (.slice (some ⟨H.length,0,none⟩) 1 1) (H.new ⟨[cv a],ty,1,false⟩)=some (s',H2)∧oJ H2 o2 t s' (cs++[a])∧Fr H o H2 o2 [t]:=by
 have f1:Fr H o (H.new ⟨[cv a],ty,1,false⟩) (o.up H.length (-9)) [t]:=(Fr.refl H o [t]).new _ _;have Xd:Fr H o (H.new ⟨[cv a],ty,1,false⟩) (o.up H.length (-9)) []:=(Fr.refl H o []).new _ _;obtain⟨s',H2,o2,e,s2,f2,_⟩:=jR (x:=.slice (some ⟨H.length,0,none⟩) 1 1) (l:=[a]) T (hs.fr Xd (by simp)) (.inr ⟨H.length,0,1,rfl,λ_=>⟨_,aL,rfl,by simp,by simp⟩⟩) (by simpa using hb)
 exact⟨s',H2,o2,e,s2,f1.tr f2⟩
structure CC (B:aa) (b:aj) (p:Nat) (t u:Int) (x:Value) (lx:List Int) (y:Value) (ly:List Int) (H:aa) (o:aj):Prop where
 fr:Fr B b H o [(p:Int)]
 q:oJ H o t x lx
 c:oJ H o u y ly
structure Two (B:aa) (b:aj) (p:Nat) (t u:Int):Prop where
 PM:oS t p
 at2:oS u p
 ne:t≠u
 ft: ∀i,i<B.length→b i≠t
 fu: ∀i,i<B.length→b i≠u
theorem Oz (B:aa)(b:aj)(p:Nat): ∃t u,Two B b p t u:=by
 obtain⟨t,h1,h2⟩:=gC b B.length;exact⟨t,t-1,⟨by omega,by omega,by omega⟩,⟨by omega,by omega,by omega⟩,by omega,λi hi=>by have:=h2 i hi;omega,λi hi=>by have:=h2 i hi;omega⟩
section
variable {B:aa} {b:aj} {u:Int} {y:Value} {lx ly:List Int}
theorem CC.eU (h2:Two B b p t u):bJ [(p:Int)] (CC B b p t u x lx y ly):=λH o H' o' h f=>⟨h.fr.tr f,h.q.fr f (by simpa using h2.PM.ne),h.c.fr f (by simpa using h2.at2.ne)⟩
variable {α:Type} {k:Nat→Value→aa→Option α} {Q:α→Prop} {a:Int} {T ty:TypeId}
end
theorem CD (n a:Int):db n (some (cv a))=some a:=rfl
end
end Go.Proofs.YtgfgglponbmgmaaGreat.Fun
end
