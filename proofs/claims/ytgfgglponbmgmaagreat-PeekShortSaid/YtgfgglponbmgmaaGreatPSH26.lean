/- Texts of the proof of peekShort_holds, put together by a small program of ours (names shortened, spaces taken out). No condition beyond the given statement. -/
import Derived.Test.YtgfgglponbmgmaaGreatPSH11
import Derived.Test.YtgfgglponbmgmaaGreatPSH25
import Derived.Test.YtgfgglponbmgmaaGreatPSH18
import Derived.Test.YtgfgglponbmgmaaGreatPSH16
import Derived.Test.YtgfgglponbmgmaaGreatPSH13
import Derived.Test.YtgfgglponbmgmaaGreatPSH17
import Derived.Test.YtgfgglponbmgmaaGreatPSH14
import Derived.Test.YtgfgglponbmgmaaGreatPSH15
set_option linter.unusedVariables false
set_option linter.unusedSimpArgs false
set_option linter.unnecessarySimpa false
noncomputable section
section
namespace Go.Proofs.YtgfgglponbmgmaaGreat.Fun
open Go Go.RowKit Go.Proofs.YtgfgglponbmgmaaGreatA.Am
set_option maxRecDepth 10000
section
open Go.Proofs.YtgfgglponbmgmaaGreatA
variable {G:ae} {H H':aa} {o o':aj} {p c:Nat} {K:aa→aj→Prop} {t:Int} {x:Value} {l:PL} {st LV s1:Y.St} {α β:Type}
abbrev GX (K:aa→aj→Prop)(t:Int)(c p:Nat)(st:Y.St)(tr:Y.Tr PL):Value→aa→Prop:=λv H'=>JX (KO K t v (Y.ah tr st).1) p (Y.ah tr st).2 H'∧(Y.ah tr st).1.length+(Y.ah tr st).2.left≤c
section
variable {k:Nat→Value→aa→Option α} {Q:α→Prop} {a b:Int} {T ty:TypeId} {C:Nat→ae} {f:Nat} {args:List Value}
theorem Ev.aaa (hK:bJ [(p:Int),t] K)(ht:oS t p)(h:JX (KO K t x l) p st H)(hb:l.length+1≤4294967296)(hk: ∀x' H',JX (KO K t x' (l++[(a,b)])) p st H'→Ev (λn=>k n x' H') Q):
  Ev (λn=>af (de T 2 16 x (.slice (some ⟨H.length,0,none⟩) 1 1) (H.new ⟨[cv a,cv b],ty,2,false⟩)) (k n)) Q:=by
 obtain⟨hJ,o,hr,Dh,hs⟩:=h;have f1:Fr H o (H.new ⟨[cv a,cv b],ty,2,false⟩) (o.up H.length (-9)) [t]:=(Fr.refl H o [t]).new _ _;have Xd:Fr H o (H.new ⟨[cv a,cv b],ty,2,false⟩) (o.up H.length (-9)) []:=(Fr.refl H o []).new _ _;obtain⟨x',H2,o2,e,s2,f2,_⟩:=gS.app (y:=.slice (some ⟨H.length,0,none⟩) 1 1) (m:=[(a,b)]) T (gS.fr hs Xd (by simp)) (Src.one (aL)) (by simpa using hb)
 rw[e];have f3:=f1.tr f2;refine hk x' H2 ⟨bJ.ko ht hK,o2,hr.fr f3 ?_ ?_ ?_,hK _ _ _ _ Dh (f3.wk (by simp)),s2⟩
 ·simp;exact λe=>ht.ne e.symm
 ·simp;exact λe=>ht.n0 e.symm
 ·simp;exact λe=>ht.n1 e.symm
theorem Ev.aab {tr:Y.Tr PL}(h:aE C f args H (GX K t c p st tr))(hk: ∀x l s1 H',Y.ah tr st=(l,s1)→JX (KO K t x l) p s1 H'→l.length+s1.left≤c→Ev (λn=>k n x H') Q):Ev (λn=>af (C n f args H) (k n)) Q:=
 Ev.call h λv H' hq=>hk v _ _ H' rfl hq.1 hq.2
end
theorem oT {n d fr to i r:Int}{l:PL}{f:Nat}{s:Y.St}(h:s.off=true∨¬i<d∨¬r<to):Y.ah (Y.cW f n d fr to i r l) s=(l,s):=by
 cases f with
 |zero=>unfold Y.cW;rfl
 |succ f=>
  unfold Y.cW;by_cases h1:i<d
  ·rw[if_neg (by omega)]
   by_cases h2:r<to
   ·rw[if_neg (by omega)]
    have h3:s.off=true:=by
     rcases h with h|h|h
     ·exact h
     ·exact absurd h1 h
     ·exact absurd h2 h
    simp only[Y.ak,bk,bH,bL,cR,cS,ne_eq,not_true_eq_false,not_false_eq_true,if_true,if_false,Bool.not_true,Bool.not_false,true_and,and_true,false_and,and_false,true_or,or_true,false_or,or_false,Bool.false_eq_true,decide_true,decide_false,h3]
   ·rw[if_pos h2];rfl
  ·rw[if_pos h1];rfl
theorem F3 {n d fr to i kX:Int}{out:PL}{f:Nat}{s:Y.St}(h:s.off=false)(h1:i<d)(h2:kX<to):Y.ah (Y.cW (f+1) n d fr to i kX out) s=Y.ah (Y.sd (Y.dh n d i) >>= λw=>
  if Y.kd w=2 then
   (if kX≥fr then Y.rd (Y.aw w) >>= λk=>Y.rd (Y.aw w+1) >>= λv=>Y.cW f n d fr to (i+1) (Y.wr (kX+1)) (out++[(k,v)])
   else Y.cW f n d fr to (i+1) (Y.wr (kX+1)) out)
  else if Y.kd w=3∨Y.kd w=4 then
   (if Y.kd w=4 then(Y.rd (Y.aw w) >>= λt=>pure (Y.aw t)) else pure (Y.aw w)) >>= λa=>Y.rd (a+4) >>= λz=>
   (if Y.wr (kX+Y.wr (z-1))>fr then Y.gJ f a (Y.wr (fr-kX)) (Y.wr (to-kX)) out else pure out) >>= λo=>
   Y.cW f n d fr to (i+1) (Y.wr (kX+Y.wr (z-1))) o
  else Y.cW f n d fr to (i+1) kX out) s:=by
 conv=>lhs;unfold Y.cW
 rw[if_neg (by omega),if_neg (by omega)]
 simp only[Y.ak,bk,bH,bL,cR,cS,ne_eq,not_true_eq_false,not_false_eq_true,if_true,if_false,Bool.not_true,Bool.not_false,true_and,and_true,false_and,and_false,true_or,or_true,false_or,or_false,Bool.false_eq_true,decide_true,decide_false,h]
theorem Le (hK:bJ [(p:Int),t] K)(ht:oS t p)(hc:c≤2147483648){a b d dd:Int}{f S:Nat}(hS:S≤1048577){T:PL×Y.St}(ih: ∀f',f'<f→∀{x:Value} {l:PL} {st:Y.St} {H:aa},JX (KO K t x l) p st H→st.left≤f'→l.length+st.left≤c→∀{a:Int},(-9223372036854775808≤a∧a≤65536)→∀b d,aE (run G) 122 [pv p,cv a,cv b,cv d,x] H (GX K t c p st (Y.gJ (f'+1) a b d l)))(k:Nat)(v0:List Value)(Hx:aa)(hi:(λ(k:Nat) (vs:List Value) (Hx:aa)=>∃(i r:Int) (x:Value) (l:PL) (sx:Y.St) (fx:Nat) (aC cj aM cQ cx dw aT aW bf gL fO aU fD:Value),vs=[pv p,cv a,cv b,cv d,x,aC,cv i,cv dd,cv r,cj,aM,cQ,cx,dw,aT,aW,bf,gL,fO,aU,fD]∧JX (KO K t x l) p sx Hx∧k=sx.left∧fx≤f∧(sx.left+1≤fx∨sx.off=true)∧0≤i∧i+sx.left≤S∧l.length+sx.left≤c∧T=Y.ah (Y.cW fx a dd b d i r l) sx) k v0 Hx):
  Ev (λn=>vd (run G n) n v0 Hx) λr=>(r.1= .normal∧∃k',k'<k∧(λ(k:Nat) (vs:List Value) (Hx:aa)=>∃(i r:Int) (x:Value) (l:PL) (sx:Y.St) (fx:Nat) (aC cj aM cQ cx dw aT aW bf gL fO aU fD:Value),vs=[pv p,cv a,cv b,cv d,x,aC,cv i,cv dd,cv r,cj,aM,cQ,cx,dw,aT,aW,bf,gL,fO,aU,fD]∧JX (KO K t x l) p sx Hx∧k=sx.left∧fx≤f∧(sx.left+1≤fx∨sx.off=true)∧0≤i∧i+sx.left≤S∧l.length+sx.left≤c∧T=Y.ah (Y.cW fx a dd b d i r l) sx) k' r.2.1 r.2.2)∨(r.1≠ .normal∧(λ(r:bE×List Value×aa)=>r.1= .exit 0∧∃(x i r':Value) (l:PL) (sx:Y.St) (aC cj aM cQ cx dw aT aW bf gL fO aU fD:Value),r.2.1=[pv p,cv a,cv b,cv d,x,aC,i,cv dd,r',cj,aM,cQ,cx,dw,aT,aW,bf,gL,fO,aU,fD]∧JX (KO K t x l) p sx r.2.2∧l.length+sx.left≤c∧T=(l,sx)) r):=by
 obtain⟨i,r,x,l,sx,fx,aC,cj,aM,cQ,cx,dw,aT,aW,bf,gL,fO,aU,fD,rfl,hj,rfl,W8,pd,hi0,Yt,hl,E⟩:=hi;have wi:sx.off=false→IntKind.i64.wrap (i+1)=i+1:=λh=>fL (by have:=iE h;omega)
 simp -implicitDefEqProofs only[Ju,wW,sS,Nat.reduceAdd];refine Ev.lss (λh1=>?_) (λh1=>?_)<;>try simp -implicitDefEqProofs only[sS,Nat.reduceAdd]
 rotate_left
 ·rw[oT (.inr (.inl h1))] at E;exact Ev.ret (.inr ⟨by simp,rfl,x,_,_,l,sx,_,_,_,_,_,_,_,_,_,_,_,_,_,rfl,hj,hl,E⟩)
 refine Ev.lss (λh2=>?_) (λh2=>?_)<;>try simp -implicitDefEqProofs only[sS,Nat.reduceAdd]
 rotate_left
 ·rw[oT (.inr (.inr h2))] at E;exact Ev.ret (.inr ⟨by simp,rfl,x,_,_,l,sx,_,_,_,_,_,_,_,_,_,_,_,_,_,rfl,hj,hl,E⟩)
 refine Ev.nW hj (λhq=>?_) (λhq=>?_)<;>try simp -implicitDefEqProofs only[sS,Nat.reduceAdd]
 ·rw[oT (.inl hq)] at E;exact Ev.ret (.inr ⟨by simp,rfl,x,_,_,l,sx,_,_,_,_,_,_,_,_,_,_,_,_,_,rfl,hj,hl,E⟩)
 have wi':=wi hq;have l4:=iE hq;have Ow:sx.left+1≤fx:=pd.resolve_right (by rw[hq];simp)
 obtain⟨fy,rfl⟩: ∃fy,fx=fy+2:=⟨fx-2,by omega⟩
 rw[F3 hq h1 h2] at E;have L2: ∀{x:Value} {l:PL} {sy:Y.St} {Hy:aa} {r:Int} {aC cj aM cQ cx dw aT aW bf gL fO aU fD:Value},JX (KO K t x l) p sy Hy→sy.left≤sx.left-1→l.length+sy.left≤c→T=Y.ah (Y.cW (fy+1) a dd b d (i+1) r l) sy→
   Ev (λn=>pf (run G n) n [pv p,cv a,cv b,cv d,x,aC,cv i,cv dd,cv r,cj,aM,cQ,cx,dw,aT,aW,bf,gL,fO,aU,fD] Hy) λr=>(r.1= .normal∧∃k',k'<sx.left∧(λ(k:Nat) (vs:List Value) (Hx:aa)=>∃(i r:Int) (x:Value) (l:PL) (sx:Y.St) (fx:Nat) (aC cj aM cQ cx dw aT aW bf gL fO aU fD:Value),vs=[pv p,cv a,cv b,cv d,x,aC,cv i,cv dd,cv r,cj,aM,cQ,cx,dw,aT,aW,bf,gL,fO,aU,fD]∧JX (KO K t x l) p sx Hx∧k=sx.left∧fx≤f∧(sx.left+1≤fx∨sx.off=true)∧0≤i∧i+sx.left≤S∧l.length+sx.left≤c∧T=Y.ah (Y.cW fx a dd b d i r l) sx) k' r.2.1 r.2.2)∨(r.1≠ .normal∧(λ(r:bE×List Value×aa)=>r.1= .exit 0∧∃(x i r':Value) (l:PL) (sx:Y.St) (aC cj aM cQ cx dw aT aW bf gL fO aU fD:Value),r.2.1=[pv p,cv a,cv b,cv d,x,aC,i,cv dd,r',cj,aM,cQ,cx,dw,aT,aW,bf,gL,fO,aU,fD]∧JX (KO K t x l) p sx r.2.2∧l.length+sx.left≤c∧T=(l,sx)) r):=by
  intro x l sy Hy r aC cj aM cQ cx dw aT aW bf gL fO aU fD hy ly hly Ey;simp -implicitDefEqProofs only[Jr,wT,sS,Nat.reduceAdd,wi'];exact Ev.ret (.inl ⟨rfl,sy.left,by omega,i+1,r,x,l,sy,fy+1,_,_,_,_,_,_,_,_,_,_,_,_,_,rfl,hy,rfl,by omega,.inl (by omega),by omega,by omega,hly,Ey⟩)
 refine Ev.is (kK _ _ _) ?_;refine Ev.eS (Oi hj _) λw t1 G1 f1 k1=>?_
 have m1:=Ld f1;rw[Y.aJ f1] at E
 try simp -implicitDefEqProofs only[sS,Nat.reduceAdd]
 refine Ev.is (nX _) ?_
 try simp -implicitDefEqProofs only[sS,Nat.reduceAdd]
 refine Ev.is (gV _) ?_
 try simp -implicitDefEqProofs only[sS,Nat.reduceAdd]
 refine Ev.eql (λk2=>?_) (λk2=>?_)<;>try simp -implicitDefEqProofs only[sS,Nat.reduceAdd]
 ·rw[if_pos k2] at E;refine Ev.geq (λh3=>?_) (λh3=>?_)<;>try simp -implicitDefEqProofs only[sS,Nat.reduceAdd]
  ·rw[if_pos h3] at E;refine Ev.eS (cX k1 _) λkk t2 G2 f2 Z9=>?_
   have m2:=dj f2;rw[Y.aJ f2] at E
   try simp -implicitDefEqProofs only[sS,Nat.reduceAdd,LW _ (j:=1) (by omega)]
   refine Ev.eS (cX Z9 _) λvv t3 G3 f3 k3'=>?_
   have m3:=dj f3;rw[Y.aJ f3] at E
   try simp -implicitDefEqProofs only[sS,Nat.reduceAdd]
   simp -implicitDefEqProofs only[yS,F2,sS,Nat.reduceAdd];refine Ev.aaa hK ht k3' (by omega) λx' H' y9=>?_
   try simp -implicitDefEqProofs only[sS,Nat.reduceAdd]
   simp -implicitDefEqProofs only[Au,rK,sS,Nat.reduceAdd,cI];exact L2 y9 (by omega) (by simp;omega) E
  ·rw[if_neg h3] at E;simp -implicitDefEqProofs only[Au,rK,sS,Nat.reduceAdd,cI];exact L2 k1 (by omega) (by omega) E
 rw[if_neg k2] at E;have L5: ∀{y:Int} {s4:Y.St} {H4:aa} {aC cj aM cQ cx dw aW bf gL fO aU fD:Value},(-9223372036854775808≤y∧y≤65536)→JX (KO K t x l) p s4 H4→s4.left≤t1.left→T=Y.ah (Y.rd (y+4) >>= λz=>
   (if Y.wr (r+Y.wr (z-1))>b then Y.gJ (fy+1) y (Y.wr (b-r)) (Y.wr (d-r)) l else pure l) >>= λo=>
   Y.cW (fy+1) a dd b d (i+1) (Y.wr (r+Y.wr (z-1))) o) s4→
   Ev (λn=>rM (run G n) n [pv p,cv a,cv b,cv d,x,aC,cv i,cv dd,cv r,cj,aM,cQ,cx,dw,cv y,aW,bf,gL,fO,aU,fD] H4) λr=>(r.1= .normal∧∃k',k'<sx.left∧(λ(k:Nat) (vs:List Value) (Hx:aa)=>∃(i r:Int) (x:Value) (l:PL) (sx:Y.St) (fx:Nat) (aC cj aM cQ cx dw aT aW bf gL fO aU fD:Value),vs=[pv p,cv a,cv b,cv d,x,aC,cv i,cv dd,cv r,cj,aM,cQ,cx,dw,aT,aW,bf,gL,fO,aU,fD]∧JX (KO K t x l) p sx Hx∧k=sx.left∧fx≤f∧(sx.left+1≤fx∨sx.off=true)∧0≤i∧i+sx.left≤S∧l.length+sx.left≤c∧T=Y.ah (Y.cW fx a dd b d i r l) sx) k' r.2.1 r.2.2)∨(r.1≠ .normal∧(λ(r:bE×List Value×aa)=>r.1= .exit 0∧∃(x i r':Value) (l:PL) (sx:Y.St) (aC cj aM cQ cx dw aT aW bf gL fO aU fD:Value),r.2.1=[pv p,cv a,cv b,cv d,x,aC,i,cv dd,r',cj,aM,cQ,cx,dw,aT,aW,bf,gL,fO,aU,fD]∧JX (KO K t x l) p sx r.2.2∧l.length+sx.left≤c∧T=(l,sx)) r):=by
  intro y s4 H4 aC cj aM cQ cx dw aW bf gL fO aU fD hy iW l4' E;have wy:IntKind.i64.wrap (y+4)=y+4:=fL (by omega)
  simp -implicitDefEqProofs only[Js,wU,sS,Nat.reduceAdd,wy];refine Ev.eS (cX iW _) λz s5 H5 e5 kh=>?_
  have m5:=dj e5;rw[Y.aJ e5] at E
  try simp -implicitDefEqProofs only[sS,Nat.reduceAdd,cI]
  refine Ev.gtr (λh6=>?_) (λh6=>?_)<;>try simp -implicitDefEqProofs only[sS,Nat.reduceAdd,cI]
  ·rw[if_pos h6] at E;refine Ev.aab (ih fy (by omega) kh (by omega) (by omega) hy _ _) λx' l' s6 H6 e6 n8 TF=>?_
   have m6:=dk e6;rw[Y.aJ e6] at E
   try simp -implicitDefEqProofs only[sS,Nat.reduceAdd,cI]
   simp -implicitDefEqProofs only[Av,rL,sS,Nat.reduceAdd,cI];exact L2 n8 (by omega) TF E
  ·rw[if_neg h6] at E;simp -implicitDefEqProofs only[Av,rL,sS,Nat.reduceAdd,cI];exact L2 kh (by omega) (by omega) E
 refine Ev.eql (λk3=>?_) (λk3=>?_)<;>try simp -implicitDefEqProofs only[sS,Nat.reduceAdd]
 ·rw[if_pos (.inl k3),if_neg (by omega),Y.bind_pure] at E
  simp -implicitDefEqProofs only[tj,oG,sS,Nat.reduceAdd];refine Ev.is (gV _) ?_
  try simp -implicitDefEqProofs only[sS,Nat.reduceAdd]
  refine Ev.eql (λk4=>?_) (λk4=>?_)<;>try simp -implicitDefEqProofs only[sS,Nat.reduceAdd]
  ·omega
  ·exact L5 (nM _) k1 (by omega) E
 refine Ev.eql (λk4=>?_) (λk4=>?_)<;>try simp -implicitDefEqProofs only[sS,Nat.reduceAdd]
 ·rw[if_pos (.inr k4),if_pos k4] at E;simp only[Y.bind_assoc] at E;simp -implicitDefEqProofs only[tj,oG,sS,Nat.reduceAdd];refine Ev.is (gV _) ?_
  try simp -implicitDefEqProofs only[sS,Nat.reduceAdd]
  refine Ev.eql (λk5=>?_) (λk5=>?_)<;>try simp -implicitDefEqProofs only[sS,Nat.reduceAdd]
  ·refine Ev.eS (cX k1 _) λtt s4 H4 e4 iW=>?_
   have m4:=dj e4;rw[Y.aJ e4,Y.bind_pure] at E
   try simp -implicitDefEqProofs only[sS,Nat.reduceAdd]
   refine Ev.is (nX _) ?_
   try simp -implicitDefEqProofs only[sS,Nat.reduceAdd]
   exact L5 (nM _) iW (by omega) E
  ·exact absurd k4 k5
 ·rw[if_neg (by omega)] at E
  simp -implicitDefEqProofs only[tj,oG,sS,Nat.reduceAdd];exact L2 k1 (by omega) (by omega) E
theorem Ox (hK:bJ [(p:Int),t] K)(ht:oS t p)(hc:c≤2147483648): ∀(f:Nat) {x:Value} {l:PL} {st:Y.St} {H:aa},JX (KO K t x l) p st H→st.left≤f→l.length+st.left≤c→∀{a:Int},(-9223372036854775808≤a∧a≤65536)→∀b d,aE (run G) 122 [pv p,cv a,cv b,cv d,x] H (GX K t c p st (Y.gJ (f+1) a b d l)):=by
 intro f;induction f using Nat.strongRecOn with
 |ind f ih=>
 intro x l st H h hf hl a ha b d;refine Ev.up (t:=λn=>U2 (run G n) n (pv p) (cv a) (cv b) (cv d) x H) ?_ λn=>Qo ..
 simp -implicitDefEqProofs only[U2,sS,Nat.reduceAdd];refine Ev.eS (cX h a) λdd s1 H1 e1 fv=>?_
 have l1:=dj e1;have Yv:=h.left;have hinv:s1.left+1≤f∨s1.off=true:=by
  by_cases ho:s1.off=true
  ·exact .inr ho
  ·have:1≤s1.left:=iE (by simpa using ho)
   exact .inl (by omega)
 have B:Y.ah (Y.gJ (f+1) a b d l) st=Y.ah (Y.cW f a dd b d 0 0 l) s1:=by
  conv=>lhs;unfold Y.gJ
  simp only[Y.ak,bk,bH,bL,cR,cS,ne_eq,not_true_eq_false,not_false_eq_true,if_true,if_false,Bool.not_true,Bool.not_false,true_and,and_true,false_and,and_false,true_or,or_true,false_or,or_false,Bool.false_eq_true,decide_true,decide_false,e1]
 generalize hT:Y.ah (Y.gJ (f+1) a b d l) st=T at B
 try simp -implicitDefEqProofs only[sS,Nat.reduceAdd]
 refine Ev.loop (k:=s1.left) (λk vs Hx=>∃(i r:Int) (x:Value) (l:PL) (sx:Y.St) (fx:Nat) (aC cj aM cQ cx dw aT aW bf gL fO aU fD:Value),vs=[pv p,cv a,cv b,cv d,x,aC,cv i,cv dd,cv r,cj,aM,cQ,cx,dw,aT,aW,bf,gL,fO,aU,fD]∧JX (KO K t x l) p sx Hx∧k=sx.left∧fx≤f∧(sx.left+1≤fx∨sx.off=true)∧0≤i∧i+sx.left≤st.left∧l.length+sx.left≤c∧T=Y.ah (Y.cW fx a dd b d i r l) sx) (λr=>r.1= .exit 0∧∃(x i r':Value) (l:PL) (sx:Y.St) (aC cj aM cQ cx dw aT aW bf gL fO aU fD:Value),r.2.1=[pv p,cv a,cv b,cv d,x,aC,i,cv dd,r',cj,aM,cQ,cx,dw,aT,aW,bf,gL,fO,aU,fD]∧JX (KO K t x l) p sx r.2.2∧l.length+sx.left≤c∧T=(l,sx)) ⟨0,0,x,l,s1,f,_,_,_,_,_,_,_,_,_,_,_,_,_,rfl,fv,rfl,Nat.le_refl _,hinv,by omega,by omega,by omega,B⟩ ?_ ?_
 ·intro k vs Hx hi;exact Le (S:=st.left) hK ht hc Yv (λf' Bk _ _ _ _ a1 a2 a3 _ a4 b d=>ih f' Bk a1 a2 a3 a4 b d) k vs Hx hi
 ·rintro e vs H2 ⟨rfl,x',i',r',l',sx,aC,cj,aM,cQ,cx,dw,aT,aW,bf,gL,fO,aU,fD,hv,hj,hl',E⟩;simp only at hv hj;subst hv;simp -implicitDefEqProofs only[Jq,wS,sS,Nat.reduceAdd];refine Ev.ret ?_;show JX _ _ _ _∧_
  rw[hT,E];exact⟨hj,hl'⟩
end
section
variable {G:ae} {H H':aa} {o o':aj} {p m c:Nat} {K:aa→aj→Prop} {t:Int} {x:Value} {l:PL}
theorem Oy {s:Value}{cs:List Int}(T ty:TypeId)(a:Int)(hs:oJ H o t s cs)(hb:cs.length+1≤4294967296):
  ∃s' H2 o2,de T 1 8 s (.slice (some ⟨H.length,0,none⟩) 1 1) (H.new ⟨[cv a],ty,1,false⟩)=some (s',H2)∧oJ H2 o2 t s' (cs++[a])∧Fr H o H2 o2 [t]:=by
 have f1:Fr H o (H.new ⟨[cv a],ty,1,false⟩) (o.up H.length (-9)) [t]:=(Fr.refl H o [t]).new _ _;have Xd:Fr H o (H.new ⟨[cv a],ty,1,false⟩) (o.up H.length (-9)) []:=(Fr.refl H o []).new _ _;obtain⟨s',H2,o2,e,s2,f2,_⟩:=jR (x:=.slice (some ⟨H.length,0,none⟩) 1 1) (l:=[a]) T (hs.fr Xd (by simp)) (.inr ⟨H.length,0,1,rfl,λ_=>⟨_,aL,rfl,by simp,by simp⟩⟩) (by simpa using hb)
 exact⟨s',H2,o2,e,s2,f1.tr f2⟩
structure CC (B:aa) (b:aj) (p:Nat) (t u:Int) (x:Value) (lx:List Int) (y:Value) (ly:List Int) (H:aa) (o:aj):Prop where
 fr:Fr B b H o [(p:Int)]
 q:oJ H o t x lx
 c:oJ H o u y ly
structure Two (B:aa) (b:aj) (p:Nat) (t u:Int):Prop where
 PM:oS t p
 at2:oS u p
 ne:t≠u
 ft: ∀i,i<B.length→b i≠t
 fu: ∀i,i<B.length→b i≠u
theorem Oz (B:aa)(b:aj)(p:Nat): ∃t u,Two B b p t u:=by
 obtain⟨t,h1,h2⟩:=gC b B.length;exact⟨t,t-1,⟨by omega,by omega,by omega⟩,⟨by omega,by omega,by omega⟩,by omega,λi hi=>by have:=h2 i hi;omega,λi hi=>by have:=h2 i hi;omega⟩
section
variable {B:aa} {b:aj} {u:Int} {y:Value} {lx ly:List Int}
theorem CC.eU (h2:Two B b p t u):bJ [(p:Int)] (CC B b p t u x lx y ly):=λH o H' o' h f=>⟨h.fr.tr f,h.q.fr f (by simpa using h2.PM.ne),h.c.fr f (by simpa using h2.at2.ne)⟩
variable {α:Type} {k:Nat→Value→aa→Option α} {Q:α→Prop} {a:Int} {T ty:TypeId}
end
theorem CD (n a:Int):db n (some (cv a))=some a:=rfl
end
section
open Go.Proofs.YtgfgglponbmgmaaGreatA
variable {G:ae} {H H':aa} {o o':aj} {p c:Nat} {K:aa→aj→Prop} {t:Int} {x:Value} {l:PL} {st LV s1:Y.St} {α β:Type}
theorem OA (n:Int): ∀(b:Nat) (r:Int),Y.je n b r=je n b r
 |0,r=>rfl
 |b+1,r=>by unfold Y.je je;exact OA n b _
theorem pP (n:Int):Y.bo n=bo n:=by unfold Y.bo bo Y.jf jf;simp only[OA]
theorem sr (n i:Int):Y.b9 n i=b9 n i:=by unfold Y.b9 b9;simp only[pP]
theorem OB (n:Int): ∀i,Y.cD n i=cD n i
 |0=>rfl
 |i+1=>by unfold Y.cD cD;rw[OB n i,sr]
theorem TH (n i:Int):Y.gI n i=gI n i:=by unfold Y.gI gI;simp only[pP,OB]
theorem nA (h:JX K p st H)(s:Int){q c:Value}{lq lc:List Int}(hq:eG H q lq)(hc:eG H c lc)(hl:lq.length+lc.length≤1000000):
  aE (run G) 131 [cv s,q,c] H λw H'=>Oe K p st (Y.cP s lq lc) H' w:=by
 refine Ev.up (t:=λn=>NO (run G n) n (cv s) q c H) ?_ λn=>HL ..
 simp -implicitDefEqProofs only[NO,hq.len,hc.len,sS,Nat.reduceAdd];have hw:IntKind.i64.wrap ((lq.length:Int)+1)=lq.length+1:=fL (by omega)
 rw[hw];refine Ev.neq (λh1=>?_) (λh1=>?_)<;>try simp -implicitDefEqProofs only[hc.len,Og,sS,Nat.reduceAdd]
 ·rw[show Y.cP s lq lc=[] by unfold Y.cP;rw[if_pos (by omega)]]
  exact Ev.ret h.FQ
 rw[Y.tC (by omega)]
 obtain⟨hK,o,hr,hk⟩:=h;obtain⟨t,ht,hf⟩:=gC o H.length;have s1:=oJ.new H o t 2 [(lc.length:Int),s,0,0,0];have f1:Fr H o (H.new ⟨[cv lc.length,cv s,cv 0,cv 0,cv 0],2,1,false⟩) (o.up H.length t) [t]:=(Fr.refl H o [t]).new _ _;obtain⟨H1,e1⟩: ∃z,z=H.new ⟨[cv lc.length,cv s,cv 0,cv 0,cv 0],2,1,false⟩:=⟨_,rfl⟩;have keep: ∀{x:Value} {l:List Int} {H2:aa} {o2:aj},eG H x l→Fr H o H2 o2 [t]→eG H2 x l:=λhx f=>hx.keep λi b e dy=>by
  rcases hx with⟨e1,e2⟩|⟨j,off,cc,e1,hb⟩
  ·exact absurd e2 dy
  ·obtain⟨bb,g1,_⟩:=hb dy;rw[e1] at e;cases e;exact f.same j (ar g1) (by have:=hf j (ar g1);simp;omega)
 obtain⟨x2,H2,o2,a2,s2,f2,_⟩:=jR (H:=H1) 2 (by rw[e1];exact s1) (keep hq (by rw[e1];exact f1)) (by simp;omega)
 have f12:Fr H o H2 o2 [t]:=by rw[e1] at f2;exact f1.tr f2
 obtain⟨x3,H3,o3,a3,s3,f3,_⟩:=jR 2 s2 (keep hc f12) (by simp;omega)
 have f13:=f12.tr f3;have eH:H.new ⟨[cv lc.length,cv s,cv 0,cv 0,cv 0],2,1,false⟩=H1:=e1.symm;simp -implicitDefEqProofs only[eH,List.length_cons,List.length_nil,sS,Nat.reduceAdd] at a2;simp -implicitDefEqProofs only[eH,a2,a3,sS,Nat.reduceAdd];have f0:Fr H o H3 o3 []:=iD f13 λi hi=>by have:=hf i hi;omega
 let o4:aj:=λi=>if H.length≤i∧o3 i=t then -51 else o3 i
 have f4:Fr H o H3 o4 []:=⟨f0.slot,λi hi=>by show(if H.length≤i∧o3 i=t then(-51:Int) else o3 i)=_;rw[if_neg (by omega)];exact f0.own i hi,f0.size⟩
 refine Ev.ret ⟨hK,o4,hr.fr f4 (by simp) (by simp) (by simp),hK _ _ _ _ hk (f4.wk (by simp)),s3.ints.1,λb n cc e dy=>?_⟩
 obtain⟨g1,g2⟩:=s3.ints.2 b n cc e dy;refine⟨g1,?_⟩;show(if H.length≤b.block∧o3 b.block=t then(-51:Int) else o3 b.block)= -51
 have Yg:H.length≤b.block:=by
  rcases Nat.lt_or_ge b.block H.length with g|g
  ·have a1:=f13.own _ g;have a2:=hf _ g;omega
  ·exact g
 rw[if_pos ⟨Yg,g2⟩]
section
variable {B:aa} {b:aj} {u:Int} {y:Value} {lx ly:List Int} {k:Nat→Value→aa→Option α} {Q:α→Prop} {a:Int} {T ty:TypeId}
theorem Ev.aac (h2:Two B b p t u)(h:JX (CC B b p t u x lx y ly) p st H)(hb:lx.length+1≤4294967296)(hk: ∀x' H',JX (CC B b p t u x' (lx++[a]) y ly) p st H'→Ev (λn=>k n x' H') Q):
  Ev (λn=>af (de T 1 8 x (.slice (some ⟨H.length,0,none⟩) 1 1) (H.new ⟨[cv a],ty,1,false⟩)) (k n)) Q:=by
 obtain⟨_,o,hr,hf,hx,hy⟩:=h;obtain⟨s',H2,o2,e,s2,f2⟩:=Oy T ty a hx hb;rw[e];refine hk s' H2 ⟨CC.eU h2,o2,hr.fr f2 ?_ ?_ ?_,iD (hf.trans f2 (rs:=[t,(p:Int)]) (by simp) (by simp)) h2.ft,s2,hy.fr f2 ?_⟩
 ·simp;exact λe=>h2.PM.ne e.symm
 ·simp;exact λe=>h2.PM.n0 e.symm
 ·simp;exact λe=>h2.PM.n1 e.symm
 ·simp;exact λe=>h2.ne e.symm
theorem Ev.aad (h2:Two B b p t u)(h:JX (CC B b p t u x lx y ly) p st H)(hb:ly.length+1≤4294967296)(hk: ∀y' H',JX (CC B b p t u x lx y' (ly++[a])) p st H'→Ev (λn=>k n y' H') Q):
  Ev (λn=>af (de T 1 8 y (.slice (some ⟨H.length,0,none⟩) 1 1) (H.new ⟨[cv a],ty,1,false⟩)) (k n)) Q:=by
 obtain⟨_,o,hr,hf,hx,hy⟩:=h;obtain⟨s',H2,o2,e,s2,f2⟩:=Oy T ty a hy hb;rw[e];refine hk s' H2 ⟨CC.eU h2,o2,hr.fr f2 ?_ ?_ ?_,iD (hf.trans f2 (rs:=[u,(p:Int)]) (by simp) (by simp)) h2.fu,hx.fr f2 ?_,s2⟩
 ·simp;exact λe=>h2.at2.ne e.symm
 ·simp;exact λe=>h2.at2.n0 e.symm
 ·simp;exact λe=>h2.at2.n1 e.symm
 ·simp;exact λe=>h2.ne e
end
theorem OC: ∀(N:Nat) {K:aa→aj→Prop} {H:aa} {st:Y.St} {x:Value} {L:PL} {q:Int},L.length=N→N≤2147483648→JX K p st H→q≠(p:Int)→(∀H o,K H o→gN H o q x L)→∀{f:Nat},N+1≤f→aE (run G) 123 [pv p,x] H (iw K p st (Y.iu f L)):=by
 intro N;induction N using Nat.strongRecOn with
 |ind N ih=>
 intro K H st x L q hN hN2 h hq hx f hf;obtain⟨fy,rfl⟩: ∃fy,f=fy+1:=⟨f-1,by omega⟩
 refine Ev.up (t:=λn=>WU (run G n) n (pv p) x H) ?_ λn=>Rw ..
 obtain⟨hK,o,hr,hk⟩:=id h;have hs:=hx _ _ hk;simp -implicitDefEqProofs only[WU,hs.len,sS,Nat.reduceAdd];refine Ev.eql (λh0=>?_) (λh0=>?_)<;>try simp -implicitDefEqProofs only[sS,Nat.reduceAdd]
 ·have eL:L=[]:=List.length_eq_zero_iff.1 (by omega)
  subst eL;refine Ev.RP (sj h) λw Hz hw=>?_
  refine Ev.si (nu hw) λz s1 Hz ez hj=>?_
  try simp -implicitDefEqProofs only[sS,Nat.reduceAdd]
  refine Ev.is (nY _ _) ?_
  try simp -implicitDefEqProofs only[sS,Nat.reduceAdd]
  refine Ev.ret (iw.of hj ?_);unfold Y.iu;simp only[Y.ak,bk,bH,bL,cR,cS,ne_eq,not_true_eq_false,not_false_eq_true,if_true,if_false,Bool.not_true,Bool.not_false,true_and,and_true,false_and,and_false,true_or,or_true,false_or,or_false,Bool.false_eq_true,decide_true,decide_false,ez]
 refine Ev.eql (λh1=>?_) (λh1=>?_)<;>try simp -implicitDefEqProofs only[sS,Nat.reduceAdd]
 ·obtain⟨kv,rfl⟩:=List.length_eq_one_iff.1 (show L.length=1 by omega)
  obtain⟨i,off,b,e1,e2,e3,e4⟩:=hs.idx (j:=0) (by omega)
  obtain⟨e5,e6,_⟩:=e4 H e2;simp only[Int.natCast_zero] at e1;simp -implicitDefEqProofs only[e1,gQ,Nat.add_zero,e5,e6,sS,Nat.reduceAdd];refine Ev.RP (uc h _ _) λw Hz hw=>?_
  refine Ev.si (nu hw) λz s1 Hz ez hj=>?_
  try simp -implicitDefEqProofs only[sS,Nat.reduceAdd]
  refine Ev.is (nY _ _) ?_
  try simp -implicitDefEqProofs only[sS,Nat.reduceAdd]
  refine Ev.ret (iw.of hj ?_);unfold Y.iu;simp only[Y.ak,bk,bH,bL,cR,cS,ne_eq,not_true_eq_false,not_false_eq_true,if_true,if_false,Bool.not_true,Bool.not_false,true_and,and_true,false_and,and_false,true_or,or_true,false_or,or_false,Bool.false_eq_true,decide_true,decide_false];have ez':Y.ah (Y.mk [kv.1,kv.2]) st=(z,s1):=ez;simp only[ez']
 obtain⟨t,u,h2⟩:=Oz H o p;have hd:=pz L.length;have hU: ∀{xq xc:Value} {lq lc:List Int} {s':Y.St} {H':aa},JX (CC H o p t u xq lq xc lc) p s' H'→JX K p s' H':=λhj=>hj.mono hK λo' hg=>hK _ _ _ _ hk hg.fr
 have uV: ∀(H':aa) (o':aj),Fr H o H' o' [(p:Int)]→gN H' o' q x L:=λH' o' f=>hs.fr f (by simpa using hq)
 have W7:JX (CC H o p t u (.slice none 0 0) [] (.slice none 0 0) []) p st H:=⟨CC.eU h2,o,hr,Fr.refl _ _ _,.inl ⟨rfl,rfl⟩,.inl ⟨rfl,rfl⟩⟩;have B:Y.ah (Y.iu (fy+1) L) st=Y.ah (Y.kY fy L (bo L.length).toNat 0 [] []) st:=by
  match L,h0,h1 with
  | [],h0,_=>exact absurd rfl h0
  | [a],_,h1=>exact absurd rfl h1
  |a::b::l,_,_=>
   conv=>lhs;unfold Y.iu
   simp only[pP]
 generalize hT:Y.ah (Y.iu (fy+1) L) st=T at B
 refine Ev.loop (k:=(bo L.length).toNat) (λk vs H1=>∃(i:Nat) (xq xc:Value) (lq lc:List Int) (sx:Y.St) (x4 x5 bA x7 x8 cq x9 aC eF fN aM aW oF aT bf aU:Value),JX (CC H o p t u xq lq xc lc) p sx H1∧lc.length=i∧lq.length≤i∧(i:Int)+k=bo L.length∧T=Y.ah (Y.kY fy L k i lq lc) sx∧vs=[pv p,x,x4,x5,cv L.length,bA,x7,x8,cq,x9,aC,cv i,eF,fN,xq,aM,aW,oF,xc,aT,bf,aU])
  (λr=>(∃(xq xc:Value) (lq lc:List Int) (sx:Y.St),JX (CC H o p t u xq lq xc lc) p sx r.2.2∧r.2.1[14]? =some xq∧r.2.1[18]? =some xc∧((r.1= .exit 0∧lq.length≤128∧lc.length≤128∧T=Y.ah (Y.kY fy L 0 lc.length lq lc) sx)∨(r.1= .ret∧T=((0,false),sx)∧r.2.1[2]? =some (cv 0)∧r.2.1[3]? =some (.bool false))))∧∃(x4 x5 bA x7 x8 cq x9 aC aI eF fN aO aM aW oF aN aT bf aU:Value),r.2.1=[pv p,x,x4,x5,cv L.length,bA,x7,x8,cq,x9,aC,aI,eF,fN,aO,aM,aW,oF,aN,aT,bf,aU])
  ⟨0,_,_,[],[],st,_,_,_,_,_,_,_,_,_,_,_,_,_,_,_,_,W7,rfl,by simp,by omega,B,rfl⟩ ?_ ?_
 ·rintro k vs H1 ⟨i,xq,xc,lq,lc,sx,x4,x5,bA,x7,x8,cq,x9,aC,eF,fN,aM,aW,oF,aT,bf,aU,hj,CX,TJ,hik,E,rfl⟩;simp -implicitDefEqProofs only[KR,yv,sS,Nat.reduceAdd];refine Ev.call (jS _) ?_;rintro v PI ⟨rfl,rfl⟩
  try simp -implicitDefEqProofs only[sS,Nat.reduceAdd]
  refine Ev.lss (λqv=>?_) (λqv=>?_)<;>try simp -implicitDefEqProofs only[sS,Nat.reduceAdd]
  ·refine Ev.call (Oc _ _) ?_;rintro v PI ⟨rfl,rfl⟩
   try simp -implicitDefEqProofs only[sS,Nat.reduceAdd]
   have sC:2≤(L.length:Int)∧(L.length:Int)≤16384:=by
    rcases Int.lt_or_le 16384 (L.length:Int) with g2|g2
    ·have:=nr (n:=(L.length:Int)) (.inr g2);omega
    ·exact⟨by omega,g2⟩
   have uq:=jU sC (i:=i) (by omega)
   have hpt:=vE sC (i:=i) qv;have ze:=yH L.length i;have hfe:gI L.length i=cD L.length i:=by rw[gI,if_neg (by omega),Int.toNat_natCast]
   have hw:IntKind.i64.wrap ((i:Int)+1)=((i+1:Nat):Int):=by rw[fL (by omega)];omega
   have uA:IntKind.i64.wrap (cD L.length i+b9 L.length i)=cD L.length i+b9 L.length i:=fL (by omega)
   obtain⟨at_,Yw⟩: ∃z:Nat,(z:Int)=cD L.length i:=⟨(cD L.length i).toNat,by omega⟩
   obtain⟨ud,aae⟩: ∃z:Nat,(z:Int)=b9 L.length i:=⟨(b9 L.length i).toNat,by omega⟩
   obtain⟨k1,rfl⟩: ∃k1,k=k1+1:=⟨k-1,by omega⟩
   have eat:(Y.gI L.length i).toNat=at_:=by rw[TH,hfe];omega
   have esz:(Y.b9 L.length i).toNat=ud:=by rw[sr];omega
   have E':T=Y.ah (Y.iu fy ((L.drop at_).take ud) >>= λwo=>if wo.2=false then pure (0,false) else Y.kY fy L k1 (i+1) (if i>0 then lq++[(L.getD at_ (0,0)).1] else lq) (lc++[wo.1])) sx:=by
    rw[E];conv=>lhs;unfold Y.kY
    rw[eat,esz]
   rw[hfe];have J2: ∀{xq xc:Value} {OD lc:List Int} {H1:aa} (x4 x5 bA x7 x8 cq x9 aC eF fN aW oF aT bf aU:Value),JX (CC H o p t u xq OD xc lc) p sx H1→OD.length≤i+1→lc.length=i→T=Y.ah (Y.iu fy ((L.drop at_).take ud) >>= λwo=>if wo.2=false then pure (0,false) else Y.kY fy L k1 (i+1) OD (lc++[wo.1])) sx→Ev (λn=>vA (run G n) n [pv p,x,x4,x5,cv L.length,bA,x7,x8,cq,x9,aC,cv i,eF,fN,xq,cv (cD L.length i),aW,oF,xc,aT,bf,aU] H1) λr=>(r.1= .normal∧∃k',k'<k1+1∧∃(i:Nat) (xq xc:Value) (lq lc:List Int) (sx:Y.St) (x4 x5 bA x7 x8 cq x9 aC eF fN aM aW oF aT bf aU:Value),JX (CC H o p t u xq lq xc lc) p sx r.2.2∧lc.length=i∧lq.length≤i∧(i:Int)+k'=bo L.length∧T=Y.ah (Y.kY fy L k' i lq lc) sx∧r.2.1=[pv p,x,x4,x5,cv L.length,bA,x7,x8,cq,x9,aC,cv i,eF,fN,xq,aM,aW,oF,xc,aT,bf,aU])∨(r.1≠ .normal∧(∃(xq xc:Value) (lq lc:List Int) (sx:Y.St),JX (CC H o p t u xq lq xc lc) p sx r.2.2∧r.2.1[14]? =some xq∧r.2.1[18]? =some xc∧((r.1= .exit 0∧lq.length≤128∧lc.length≤128∧T=Y.ah (Y.kY fy L 0 lc.length lq lc) sx)∨(r.1= .ret∧T=((0,false),sx)∧r.2.1[2]? =some (cv 0)∧r.2.1[3]? =some (.bool false))))∧∃(x4 x5 bA x7 x8 cq x9 aC aI eF fN aO aM aW oF aN aT bf aU:Value),r.2.1=[pv p,x,x4,x5,cv L.length,bA,x7,x8,cq,x9,aC,aI,eF,fN,aO,aM,aW,oF,aN,aT,bf,aU]):=by
    intro xq xc OD lc H1 x4 x5 bA x7 x8 cq x9 aC eF fN aW oF aT bf aU hj TJ CX E;simp -implicitDefEqProofs only[KP,yu,sS,Nat.reduceAdd];refine Ev.call (yE _ _) ?_;rintro v PI ⟨rfl,rfl⟩;simp -implicitDefEqProofs only[uA,sS,Nat.reduceAdd];obtain⟨_,o1,uD,hg⟩:=id hj;obtain⟨y,hy1,Xe⟩:=(uV _ _ hg.fr).cut (m:=at_) (n:=at_+ud) (lo:=some (cv (cD L.length i))) (hi:=some (cv (cD L.length i+b9 L.length i))) (by omega) (by omega) (by rw[CD,Yw]) (by rw[CD];congr 1;omega)
    simp -implicitDefEqProofs only[hy1,sS,Nat.reduceAdd];have Xf:(L.take (at_+ud)).drop at_=(L.drop at_).take ud:=by rw[List.drop_take];congr 1;omega
    rw[Xf] at Xe;have hjy:JX (λH' o'=>CC H o p t u xq OD xc lc H' o'∧gN H' o' q y ((L.drop at_).take ud)) p sx _:=⟨(CC.eU h2).and (bJ.kq (by simpa using hq)),o1,uD,hg,Xe⟩
    refine Ev.D7 (ih ((L.drop at_).take ud).length ?_ rfl ?_ hjy hq (λH' o' a=>a.2) (f:=fy) ?_) λz zb s1 Hz ez LY=>?_
    ·simp;omega
    ·simp;omega
    ·simp;omega
    have yT:=LY.mono (CC.eU h2) λo' a=>a.1
    rw[Y.aJ ez] at E;simp -implicitDefEqProofs only[zP,sS,Nat.reduceAdd];cases zb<;>try simp -implicitDefEqProofs only[zP,sS,Nat.reduceAdd]
    ·exact Ev.ret (.inr ⟨by simp,⟨_,_,_,_,s1,yT,rfl,rfl,.inr ⟨rfl,E,rfl,rfl⟩⟩,_,_,_,_,_,_,_,_,_,_,_,_,_,_,_,_,_,_,_,rfl⟩)
    ·refine Ev.aad h2 yT (by omega) λx' Hz hj=>?_
     simp -implicitDefEqProofs only[KN,yq,hw,sS,Nat.reduceAdd];refine Ev.ret (.inl ⟨rfl,k1,by omega,i+1,_,_,_,_,s1,_,_,_,_,_,_,_,_,_,_,_,_,_,_,_,_,hj,by simp[CX],TJ,by omega,?_,rfl⟩)
     rw[E];simp only[Bool.true_eq_false,if_false]
   refine Ev.gtr (λkt=>?_) (λkt=>?_)<;>try simp -implicitDefEqProofs only[sS,Nat.reduceAdd]
   ·obtain⟨_,o1,uD,hg⟩:=id hj;obtain⟨i',off,b',e1,e2,e3,e4⟩:=(uV _ _ hg.fr).idx (j:=at_) (by omega)
    obtain⟨e5,e6,_⟩:=e4 _ e2;rw[Yw] at e1;simp -implicitDefEqProofs only[e1,gQ,Nat.add_zero,e5,zP,sS,Nat.reduceAdd];refine Ev.aac h2 hj (by omega) λx' Hz hj=>?_
    rw[if_pos (show i>0 by omega)] at E'
    exact J2 _ _ _ _ _ _ _ _ _ _ _ _ _ _ _ hj (by simp;omega) CX E'
   ·rw[if_neg (show ¬i>0 by omega)] at E'
    exact J2 _ _ _ _ _ _ _ _ _ _ _ _ _ _ _ hj (by omega) CX E'
  ·have:k=0:=by omega
   subst this;subst CX;exact Ev.ret (.inr ⟨by simp,⟨_,_,_,_,sx,hj,rfl,rfl,.inl ⟨rfl,by omega,by omega,E⟩⟩,_,_,_,_,_,_,_,_,_,_,_,_,_,_,_,_,_,_,_,rfl⟩)
 ·rintro e vs H1 ⟨⟨xq,xc,lq,lc,sx,hj,e14,e18,he⟩,x4,x5,bA,x7,x8,cq,x9,aC,aI,eF,fN,aO,aM,aW,oF,aN,aT,bf,aU,rfl⟩;simp only[List.getElem?_cons_succ,List.getElem?_cons_zero,Option.some.injEq] at e14 e18;subst e14 e18;rcases he with⟨he,TJ,CX,E⟩|⟨he,E,e1,e2⟩
  ·simp only at he;subst he;simp -implicitDefEqProofs only[KS,yw,sS,Nat.reduceAdd];obtain⟨_,o1,uD,hg⟩:=id hj;refine Ev.RP (nA (hU hj) _ hg.q.ints.1 hg.c.ints.1 (by omega)) λw Hz hjw=>?_
   refine Ev.si (nu hjw) λz s1 Hz ez hj=>?_
   try simp -implicitDefEqProofs only[sS,Nat.reduceAdd]
   refine Ev.is (nY _ _) ?_
   try simp -implicitDefEqProofs only[sS,Nat.reduceAdd]
   refine Ev.ret (iw.of hj ?_);rw[hT,E];unfold Y.kY;simp only[Y.ak,bk,bH,bL,cR,cS,ne_eq,not_true_eq_false,not_false_eq_true,if_true,if_false,Bool.not_true,Bool.not_false,true_and,and_true,false_and,and_false,true_or,or_true,false_or,or_false,Bool.false_eq_true,decide_true,decide_false,ez]
  ·simp only at he;subst he;simp only[List.getElem?_cons_succ,List.getElem?_cons_zero,Option.some.injEq] at e1 e2;subst e1 e2;show Ev (λ_=>some (Value.tuple #[cv 0,.bool false],H1)) _
   exact Ev.ret (iw.of (hU hj) (by rw[hT,E]))
end
section
variable {G:ae} {H H':aa} {o o':aj} {p m c:Nat} {K:aa→aj→Prop} {t:Int} {x:Value} {l:PL}
theorem vI (n:Nat):bK [cv 0] n=(List.replicate n (0:Int)).map cv:=by
 simp[bK,List.flatten_replicate_singleton]
theorem aaf (a b c:Int)(H:aa):dH 37 (.agg #[cv a,cv b,cv c]) H=some (pv H.length,H.new ⟨[cv a,cv b,cv c],37,1,false⟩):=by
 simp[dH,Value.cells,aD,aS]
end
end Go.Proofs.YtgfgglponbmgmaaGreat.Fun
end
