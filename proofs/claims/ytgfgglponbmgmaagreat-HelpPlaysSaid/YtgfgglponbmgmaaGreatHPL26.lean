/- Texts of the proof of helpPlays_holds, put together by a small program of ours (names shortened, spaces taken out). No condition beyond the given statement. -/
import Derived.Test.YtgfgglponbmgmaaGreatHPL15
import Derived.Test.YtgfgglponbmgmaaGreatHPL25
import Derived.Test.YtgfgglponbmgmaaGreatHPL13
import Derived.Test.YtgfgglponbmgmaaGreatHPL11
import Derived.Test.YtgfgglponbmgmaaGreatHPL16
import Derived.Test.YtgfgglponbmgmaaGreatHPL14
import Derived.Test.YtgfgglponbmgmaaGreatHPL17
import Derived.Test.YtgfgglponbmgmaaGreatHPL18
set_option linter.unusedVariables false
set_option linter.unusedSimpArgs false
set_option linter.unnecessarySimpa false
noncomputable section
section
namespace Go.Proofs.YtgfgglponbmgmaaGreat.Fun
open Go Go.RowKit Go.Proofs.YtgfgglponbmgmaaGreatA.Am
set_option maxRecDepth 10000
section
open Go.Proofs.YtgfgglponbmgmaaGreatA
variable {G:ae} {H H':aa} {o o':aj} {p c:Nat} {K:aa→aj→Prop} {t:Int} {x:Value} {l:PL} {st Nz s1:Y.St} {α β:Type}
abbrev GX (K:aa→aj→Prop)(t:Int)(c p:Nat)(st:Y.St)(tr:Y.Tr PL):Value→aa→Prop:=λv H'=>JX (KO K t v (Y.ah tr st).1) p (Y.ah tr st).2 H'∧(Y.ah tr st).1.length+(Y.ah tr st).2.left≤c
section
variable {k:Nat→Value→aa→Option α} {Q:α→Prop} {a b:Int} {T ty:TypeId} {C:Nat→ae} {f:Nat} {args:List Value}
theorem Ev.abd (hK:bH [(p:Int),t] K)(ht:oZ t p)(h:JX (KO K t x l) p st H)(hb:l.length+1≤4294967296)(hk: ∀x' H',JX (KO K t x' (l++[(a,b)])) p st H'→Ev (λn=>k n x' H') Q):
  Ev (λn=>af (dk T 2 16 x (.slice (some ⟨H.length,0,none⟩) 1 1) (H.new ⟨[cv a,cv b],ty,2,false⟩)) (k n)) Q:=by
 obtain⟨hJ,o,hr,D2,hs⟩:=h;have f1:Fr H o (H.new ⟨[cv a,cv b],ty,2,false⟩) (o.up H.length (-9)) [t]:=(Fr.refl H o [t]).new _ _;have YF:Fr H o (H.new ⟨[cv a,cv b],ty,2,false⟩) (o.up H.length (-9)) []:=(Fr.refl H o []).new _ _;obtain⟨x',H2,o2,e,s2,f2,_⟩:=gZ.app (y:=.slice (some ⟨H.length,0,none⟩) 1 1) (m:=[(a,b)]) T (gZ.fr hs YF (by simp)) (Src.one (aL)) (by simpa using hb)
 rw[e];have f3:=f1.tr f2;refine hk x' H2 ⟨bH.ko ht hK,o2,hr.fr f3 ?_ ?_ ?_,hK _ _ _ _ D2 (f3.wk (by simp)),s2⟩
 ·simp;exact λe=>ht.ne e.symm
 ·simp;exact λe=>ht.n0 e.symm
 ·simp;exact λe=>ht.n1 e.symm
theorem Ev.abe {tr:Y.Tr PL}(h:aF C f args H (GX K t c p st tr))(hk: ∀x l s1 H',Y.ah tr st=(l,s1)→JX (KO K t x l) p s1 H'→l.length+s1.left≤c→Ev (λn=>k n x H') Q):Ev (λn=>af (C n f args H) (k n)) Q:=
 Ev.call h λv H' hq=>hk v _ _ H' rfl hq.1 hq.2
end
theorem pb {n d fr to i r:Int}{l:PL}{f:Nat}{s:Y.St}(h:s.off=true∨¬i<d∨¬r<to):Y.ah (Y.da f n d fr to i r l) s=(l,s):=by
 cases f with
 |zero=>unfold Y.da;rfl
 |succ f=>
  unfold Y.da;by_cases h1:i<d
  ·rw[if_neg (by omega)]
   by_cases h2:r<to
   ·rw[if_neg (by omega)]
    have h3:s.off=true:=by
     rcases h with h|h|h
     ·exact h
     ·exact absurd h1 h
     ·exact absurd h2 h
    simp only[Y.al,bn,bG,bM,cW,cX,ne_eq,not_true_eq_false,not_false_eq_true,if_true,if_false,Bool.not_true,Bool.not_false,true_and,and_true,false_and,and_false,true_or,or_true,false_or,or_false,Bool.false_eq_true,decide_true,decide_false,h3]
   ·rw[if_pos h2];rfl
  ·rw[if_pos h1];rfl
theorem Hn {n d fr to i lv:Int}{out:PL}{f:Nat}{s:Y.St}(h:s.off=false)(h1:i<d)(h2:lv<to):Y.ah (Y.da (f+1) n d fr to i lv out) s=Y.ah (Y.sD (Y.dr n d i) >>= λw=>
  if Y.kd w=2 then
   (if lv≥fr then Y.rd (Y.aw w) >>= λk=>Y.rd (Y.aw w+1) >>= λv=>Y.da f n d fr to (i+1) (Y.wr (lv+1)) (out++[(k,v)])
   else Y.da f n d fr to (i+1) (Y.wr (lv+1)) out)
  else if Y.kd w=3∨Y.kd w=4 then
   (if Y.kd w=4 then(Y.rd (Y.aw w) >>= λt=>pure (Y.aw t)) else pure (Y.aw w)) >>= λa=>Y.rd (a+4) >>= λz=>
   (if Y.wr (lv+Y.wr (z-1))>fr then Y.gO f a (Y.wr (fr-lv)) (Y.wr (to-lv)) out else pure out) >>= λo=>
   Y.da f n d fr to (i+1) (Y.wr (lv+Y.wr (z-1))) o
  else Y.da f n d fr to (i+1) lv out) s:=by
 conv=>lhs;unfold Y.da
 rw[if_neg (by omega),if_neg (by omega)]
 simp only[Y.al,bn,bG,bM,cW,cX,ne_eq,not_true_eq_false,not_false_eq_true,if_true,if_false,Bool.not_true,Bool.not_false,true_and,and_true,false_and,and_false,true_or,or_true,false_or,or_false,Bool.false_eq_true,decide_true,decide_false,h]
theorem MW (hK:bH [(p:Int),t] K)(ht:oZ t p)(hc:c≤2147483648){a b d dd:Int}{f S:Nat}(hS:S≤1048577){T:PL×Y.St}(ih: ∀f',f'<f→∀{x:Value} {l:PL} {st:Y.St} {H:aa},JX (KO K t x l) p st H→st.left≤f'→l.length+st.left≤c→∀{a:Int},(-9223372036854775808≤a∧a≤65536)→∀b d,aF (run G) 122 [pv p,cv a,cv b,cv d,x] H (GX K t c p st (Y.gO (f'+1) a b d l)))(k:Nat)(v0:List Value)(Hx:aa)(hi:(λ(k:Nat) (vs:List Value) (Hx:aa)=>∃(i r:Int) (x:Value) (l:PL) (sx:Y.St) (fx:Nat) (aC cm aM cV cH dT aS bf aZ gR gn aX fE:Value),vs=[pv p,cv a,cv b,cv d,x,aC,cv i,cv dd,cv r,cm,aM,cV,cH,dT,aS,bf,aZ,gR,gn,aX,fE]∧JX (KO K t x l) p sx Hx∧k=sx.left∧fx≤f∧(sx.left+1≤fx∨sx.off=true)∧0≤i∧i+sx.left≤S∧l.length+sx.left≤c∧T=Y.ah (Y.da fx a dd b d i r l) sx) k v0 Hx):
  Ev (λn=>vP (run G n) n v0 Hx) λr=>(r.1= .normal∧∃k',k'<k∧(λ(k:Nat) (vs:List Value) (Hx:aa)=>∃(i r:Int) (x:Value) (l:PL) (sx:Y.St) (fx:Nat) (aC cm aM cV cH dT aS bf aZ gR gn aX fE:Value),vs=[pv p,cv a,cv b,cv d,x,aC,cv i,cv dd,cv r,cm,aM,cV,cH,dT,aS,bf,aZ,gR,gn,aX,fE]∧JX (KO K t x l) p sx Hx∧k=sx.left∧fx≤f∧(sx.left+1≤fx∨sx.off=true)∧0≤i∧i+sx.left≤S∧l.length+sx.left≤c∧T=Y.ah (Y.da fx a dd b d i r l) sx) k' r.2.1 r.2.2)∨(r.1≠ .normal∧(λ(r:bA×List Value×aa)=>r.1= .exit 0∧∃(x i r':Value) (l:PL) (sx:Y.St) (aC cm aM cV cH dT aS bf aZ gR gn aX fE:Value),r.2.1=[pv p,cv a,cv b,cv d,x,aC,i,cv dd,r',cm,aM,cV,cH,dT,aS,bf,aZ,gR,gn,aX,fE]∧JX (KO K t x l) p sx r.2.2∧l.length+sx.left≤c∧T=(l,sx)) r):=by
 obtain⟨i,r,x,l,sx,fx,aC,cm,aM,cV,cH,dT,aS,bf,aZ,gR,gn,aX,fE,rfl,hj,rfl,hfx,qU,hi0,ZT,hl,E⟩:=hi;have wi:sx.off=false→IntKind.i64.wrap (i+1)=i+1:=λh=>ga (by have:=iU h;omega)
 simp -implicitDefEqProofs only[LS,yk,sS,Nat.reduceAdd];refine Ev.lss (λh1=>?_) (λh1=>?_)<;>try simp -implicitDefEqProofs only[sS,Nat.reduceAdd]
 rotate_left
 ·rw[pb (.inr (.inl h1))] at E;exact Ev.ret (.inr ⟨by simp,rfl,x,_,_,l,sx,_,_,_,_,_,_,_,_,_,_,_,_,_,rfl,hj,hl,E⟩)
 refine Ev.lss (λh2=>?_) (λh2=>?_)<;>try simp -implicitDefEqProofs only[sS,Nat.reduceAdd]
 rotate_left
 ·rw[pb (.inr (.inr h2))] at E;exact Ev.ret (.inr ⟨by simp,rfl,x,_,_,l,sx,_,_,_,_,_,_,_,_,_,_,_,_,_,rfl,hj,hl,E⟩)
 refine Ev.nZ hj (λhq=>?_) (λhq=>?_)<;>try simp -implicitDefEqProofs only[sS,Nat.reduceAdd]
 ·rw[pb (.inl hq)] at E;exact Ev.ret (.inr ⟨by simp,rfl,x,_,_,l,sx,_,_,_,_,_,_,_,_,_,_,_,_,_,rfl,hj,hl,E⟩)
 have wi':=wi hq;have l4:=iU hq;have PX:sx.left+1≤fx:=qU.resolve_right (by rw[hq];simp)
 obtain⟨fy,rfl⟩: ∃fy,fx=fy+2:=⟨fx-2,by omega⟩
 rw[Hn hq h1 h2] at E;have L2: ∀{x:Value} {l:PL} {sy:Y.St} {Hy:aa} {r:Int} {aC cm aM cV cH dT aS bf aZ gR gn aX fE:Value},JX (KO K t x l) p sy Hy→sy.left≤sx.left-1→l.length+sy.left≤c→T=Y.ah (Y.da (fy+1) a dd b d (i+1) r l) sy→
   Ev (λn=>pz (run G n) n [pv p,cv a,cv b,cv d,x,aC,cv i,cv dd,cv r,cm,aM,cV,cH,dT,aS,bf,aZ,gR,gn,aX,fE] Hy) λr=>(r.1= .normal∧∃k',k'<sx.left∧(λ(k:Nat) (vs:List Value) (Hx:aa)=>∃(i r:Int) (x:Value) (l:PL) (sx:Y.St) (fx:Nat) (aC cm aM cV cH dT aS bf aZ gR gn aX fE:Value),vs=[pv p,cv a,cv b,cv d,x,aC,cv i,cv dd,cv r,cm,aM,cV,cH,dT,aS,bf,aZ,gR,gn,aX,fE]∧JX (KO K t x l) p sx Hx∧k=sx.left∧fx≤f∧(sx.left+1≤fx∨sx.off=true)∧0≤i∧i+sx.left≤S∧l.length+sx.left≤c∧T=Y.ah (Y.da fx a dd b d i r l) sx) k' r.2.1 r.2.2)∨(r.1≠ .normal∧(λ(r:bA×List Value×aa)=>r.1= .exit 0∧∃(x i r':Value) (l:PL) (sx:Y.St) (aC cm aM cV cH dT aS bf aZ gR gn aX fE:Value),r.2.1=[pv p,cv a,cv b,cv d,x,aC,i,cv dd,r',cm,aM,cV,cH,dT,aS,bf,aZ,gR,gn,aX,fE]∧JX (KO K t x l) p sx r.2.2∧l.length+sx.left≤c∧T=(l,sx)) r):=by
  intro x l sy Hy r aC cm aM cV cH dT aS bf aZ gR gn aX fE hy ly hly Ey;simp -implicitDefEqProofs only[LQ,yi,sS,Nat.reduceAdd,wi'];exact Ev.ret (.inl ⟨rfl,sy.left,by omega,i+1,r,x,l,sy,fy+1,_,_,_,_,_,_,_,_,_,_,_,_,_,rfl,hy,rfl,by omega,.inl (by omega),by omega,by omega,hly,Ey⟩)
 refine Ev.is (kV _ _ _) ?_;refine Ev.fe (PM hj _) λw t1 G1 f1 k1=>?_
 have m1:=MV f1;rw[Y.aJ f1] at E
 try simp -implicitDefEqProofs only[sS,Nat.reduceAdd]
 refine Ev.is (n3 _) ?_
 try simp -implicitDefEqProofs only[sS,Nat.reduceAdd]
 refine Ev.is (hX _) ?_
 try simp -implicitDefEqProofs only[sS,Nat.reduceAdd]
 refine Ev.eql (λk2=>?_) (λk2=>?_)<;>try simp -implicitDefEqProofs only[sS,Nat.reduceAdd]
 ·rw[if_pos k2] at E;refine Ev.geq (λh3=>?_) (λh3=>?_)<;>try simp -implicitDefEqProofs only[sS,Nat.reduceAdd]
  ·rw[if_pos h3] at E;refine Ev.fe (df k1 _) λkk t2 G2 f2 k2'=>?_
   have m2:=du f2;rw[Y.aJ f2] at E
   try simp -implicitDefEqProofs only[sS,Nat.reduceAdd,NA _ (j:=1) (by omega)]
   refine Ev.fe (df k2' _) λvv t3 G3 f3 k3'=>?_
   have m3:=du f3;rw[Y.aJ f3] at E
   try simp -implicitDefEqProofs only[sS,Nat.reduceAdd]
   simp -implicitDefEqProofs only[zt,Hm,sS,Nat.reduceAdd];refine Ev.abd hK ht k3' (by omega) λx' H' zN=>?_
   try simp -implicitDefEqProofs only[sS,Nat.reduceAdd]
   simp -implicitDefEqProofs only[Ba,sb,sS,Nat.reduceAdd,cP];exact L2 zN (by omega) (by simp;omega) E
  ·rw[if_neg h3] at E;simp -implicitDefEqProofs only[Ba,sb,sS,Nat.reduceAdd,cP];exact L2 k1 (by omega) (by omega) E
 rw[if_neg k2] at E;have L5: ∀{y:Int} {s4:Y.St} {H4:aa} {aC cm aM cV cH dT bf aZ gR gn aX fE:Value},(-9223372036854775808≤y∧y≤65536)→JX (KO K t x l) p s4 H4→s4.left≤t1.left→T=Y.ah (Y.rd (y+4) >>= λz=>
   (if Y.wr (r+Y.wr (z-1))>b then Y.gO (fy+1) y (Y.wr (b-r)) (Y.wr (d-r)) l else pure l) >>= λo=>
   Y.da (fy+1) a dd b d (i+1) (Y.wr (r+Y.wr (z-1))) o) s4→
   Ev (λn=>se (run G n) n [pv p,cv a,cv b,cv d,x,aC,cv i,cv dd,cv r,cm,aM,cV,cH,dT,cv y,bf,aZ,gR,gn,aX,fE] H4) λr=>(r.1= .normal∧∃k',k'<sx.left∧(λ(k:Nat) (vs:List Value) (Hx:aa)=>∃(i r:Int) (x:Value) (l:PL) (sx:Y.St) (fx:Nat) (aC cm aM cV cH dT aS bf aZ gR gn aX fE:Value),vs=[pv p,cv a,cv b,cv d,x,aC,cv i,cv dd,cv r,cm,aM,cV,cH,dT,aS,bf,aZ,gR,gn,aX,fE]∧JX (KO K t x l) p sx Hx∧k=sx.left∧fx≤f∧(sx.left+1≤fx∨sx.off=true)∧0≤i∧i+sx.left≤S∧l.length+sx.left≤c∧T=Y.ah (Y.da fx a dd b d i r l) sx) k' r.2.1 r.2.2)∨(r.1≠ .normal∧(λ(r:bA×List Value×aa)=>r.1= .exit 0∧∃(x i r':Value) (l:PL) (sx:Y.St) (aC cm aM cV cH dT aS bf aZ gR gn aX fE:Value),r.2.1=[pv p,cv a,cv b,cv d,x,aC,i,cv dd,r',cm,aM,cV,cH,dT,aS,bf,aZ,gR,gn,aX,fE]∧JX (KO K t x l) p sx r.2.2∧l.length+sx.left≤c∧T=(l,sx)) r):=by
  intro y s4 H4 aC cm aM cV cH dT bf aZ gR gn aX fE hy jh l4' E;have wy:IntKind.i64.wrap (y+4)=y+4:=ga (by omega)
  simp -implicitDefEqProofs only[LR,yj,sS,Nat.reduceAdd,wy];refine Ev.fe (df jh _) λz s5 H5 e5 lG=>?_
  have m5:=du e5;rw[Y.aJ e5] at E
  try simp -implicitDefEqProofs only[sS,Nat.reduceAdd,cP]
  refine Ev.gtr (λh6=>?_) (λh6=>?_)<;>try simp -implicitDefEqProofs only[sS,Nat.reduceAdd,cP]
  ·rw[if_pos h6] at E;refine Ev.abe (ih fy (by omega) lG (by omega) (by omega) hy _ _) λx' l' s6 H6 e6 oj Vc=>?_
   have m6:=dv e6;rw[Y.aJ e6] at E
   try simp -implicitDefEqProofs only[sS,Nat.reduceAdd,cP]
   simp -implicitDefEqProofs only[Bb,sd,sS,Nat.reduceAdd,cP];exact L2 oj (by omega) Vc E
  ·rw[if_neg h6] at E;simp -implicitDefEqProofs only[Bb,sd,sS,Nat.reduceAdd,cP];exact L2 lG (by omega) (by omega) E
 refine Ev.eql (λk3=>?_) (λk3=>?_)<;>try simp -implicitDefEqProofs only[sS,Nat.reduceAdd]
 ·rw[if_pos (.inl k3),if_neg (by omega),Y.bind_pure] at E
  simp -implicitDefEqProofs only[tZ,oP,sS,Nat.reduceAdd];refine Ev.is (hX _) ?_
  try simp -implicitDefEqProofs only[sS,Nat.reduceAdd]
  refine Ev.eql (λk4=>?_) (λk4=>?_)<;>try simp -implicitDefEqProofs only[sS,Nat.reduceAdd]
  ·omega
  ·exact L5 (qm _) k1 (by omega) E
 refine Ev.eql (λk4=>?_) (λk4=>?_)<;>try simp -implicitDefEqProofs only[sS,Nat.reduceAdd]
 ·rw[if_pos (.inr k4),if_pos k4] at E;simp only[Y.bind_assoc] at E;simp -implicitDefEqProofs only[tZ,oP,sS,Nat.reduceAdd];refine Ev.is (hX _) ?_
  try simp -implicitDefEqProofs only[sS,Nat.reduceAdd]
  refine Ev.eql (λk5=>?_) (λk5=>?_)<;>try simp -implicitDefEqProofs only[sS,Nat.reduceAdd]
  ·refine Ev.fe (df k1 _) λtt s4 H4 e4 jh=>?_
   have m4:=du e4;rw[Y.aJ e4,Y.bind_pure] at E
   try simp -implicitDefEqProofs only[sS,Nat.reduceAdd]
   refine Ev.is (n3 _) ?_
   try simp -implicitDefEqProofs only[sS,Nat.reduceAdd]
   exact L5 (qm _) jh (by omega) E
  ·exact absurd k4 k5
 ·rw[if_neg (by omega)] at E
  simp -implicitDefEqProofs only[tZ,oP,sS,Nat.reduceAdd];exact L2 k1 (by omega) (by omega) E
theorem PY (hK:bH [(p:Int),t] K)(ht:oZ t p)(hc:c≤2147483648): ∀(f:Nat) {x:Value} {l:PL} {st:Y.St} {H:aa},JX (KO K t x l) p st H→st.left≤f→l.length+st.left≤c→∀{a:Int},(-9223372036854775808≤a∧a≤65536)→∀b d,aF (run G) 122 [pv p,cv a,cv b,cv d,x] H (GX K t c p st (Y.gO (f+1) a b d l)):=by
 intro f;induction f using Nat.strongRecOn with
 |ind f ih=>
 intro x l st H h hf hl a ha b d;refine Ev.up (t:=λn=>XG (run G n) n (pv p) (cv a) (cv b) (cv d) x H) ?_ λn=>Sn ..
 simp -implicitDefEqProofs only[XG,sS,Nat.reduceAdd];refine Ev.fe (df h a) λdd s1 H1 e1 fK=>?_
 have l1:=du e1;have ZW:=h.left;have hinv:s1.left+1≤f∨s1.off=true:=by
  by_cases ho:s1.off=true
  ·exact .inr ho
  ·have:1≤s1.left:=iU (by simpa using ho)
   exact .inl (by omega)
 have B:Y.ah (Y.gO (f+1) a b d l) st=Y.ah (Y.da f a dd b d 0 0 l) s1:=by
  conv=>lhs;unfold Y.gO
  simp only[Y.al,bn,bG,bM,cW,cX,ne_eq,not_true_eq_false,not_false_eq_true,if_true,if_false,Bool.not_true,Bool.not_false,true_and,and_true,false_and,and_false,true_or,or_true,false_or,or_false,Bool.false_eq_true,decide_true,decide_false,e1]
 generalize hT:Y.ah (Y.gO (f+1) a b d l) st=T at B
 try simp -implicitDefEqProofs only[sS,Nat.reduceAdd]
 refine Ev.loop (k:=s1.left) (λk vs Hx=>∃(i r:Int) (x:Value) (l:PL) (sx:Y.St) (fx:Nat) (aC cm aM cV cH dT aS bf aZ gR gn aX fE:Value),vs=[pv p,cv a,cv b,cv d,x,aC,cv i,cv dd,cv r,cm,aM,cV,cH,dT,aS,bf,aZ,gR,gn,aX,fE]∧JX (KO K t x l) p sx Hx∧k=sx.left∧fx≤f∧(sx.left+1≤fx∨sx.off=true)∧0≤i∧i+sx.left≤st.left∧l.length+sx.left≤c∧T=Y.ah (Y.da fx a dd b d i r l) sx) (λr=>r.1= .exit 0∧∃(x i r':Value) (l:PL) (sx:Y.St) (aC cm aM cV cH dT aS bf aZ gR gn aX fE:Value),r.2.1=[pv p,cv a,cv b,cv d,x,aC,i,cv dd,r',cm,aM,cV,cH,dT,aS,bf,aZ,gR,gn,aX,fE]∧JX (KO K t x l) p sx r.2.2∧l.length+sx.left≤c∧T=(l,sx)) ⟨0,0,x,l,s1,f,_,_,_,_,_,_,_,_,_,_,_,_,_,rfl,fK,rfl,Nat.le_refl _,hinv,by omega,by omega,by omega,B⟩ ?_ ?_
 ·intro k vs Hx hi;exact MW (S:=st.left) hK ht hc ZW (λf' zX _ _ _ _ a1 a2 a3 _ a4 b d=>ih f' zX a1 a2 a3 a4 b d) k vs Hx hi
 ·rintro e vs H2 ⟨rfl,x',i',r',l',sx,aC,cm,aM,cV,cH,dT,aS,bf,aZ,gR,gn,aX,fE,hv,hj,hl',E⟩;simp only at hv hj;subst hv;simp -implicitDefEqProofs only[LP,yh,sS,Nat.reduceAdd];refine Ev.ret ?_;show JX _ _ _ _∧_
  rw[hT,E];exact⟨hj,hl'⟩
end
section
variable {G:ae} {H H':aa} {o o':aj} {p m c:Nat} {K:aa→aj→Prop} {t:Int} {x:Value} {l:PL}
theorem PZ {s:Value}{cs:List Int}(T ty:TypeId)(a:Int)(hs:oQ H o t s cs)(hb:cs.length+1≤4294967296):
  ∃s' H2 o2,dk T 1 8 s (.slice (some ⟨H.length,0,none⟩) 1 1) (H.new ⟨[cv a],ty,1,false⟩)=some (s',H2)∧oQ H2 o2 t s' (cs++[a])∧Fr H o H2 o2 [t]:=by
 have f1:Fr H o (H.new ⟨[cv a],ty,1,false⟩) (o.up H.length (-9)) [t]:=(Fr.refl H o [t]).new _ _;have YF:Fr H o (H.new ⟨[cv a],ty,1,false⟩) (o.up H.length (-9)) []:=(Fr.refl H o []).new _ _;obtain⟨s',H2,o2,e,s2,f2,_⟩:=kg (x:=.slice (some ⟨H.length,0,none⟩) 1 1) (l:=[a]) T (hs.fr YF (by simp)) (.inr ⟨H.length,0,1,rfl,λ_=>⟨_,aL,rfl,by simp,by simp⟩⟩) (by simpa using hb)
 exact⟨s',H2,o2,e,s2,f1.tr f2⟩
structure De (B:aa) (b:aj) (p:Nat) (t u:Int) (x:Value) (lx:List Int) (y:Value) (ly:List Int) (H:aa) (o:aj):Prop where
 fr:Fr B b H o [(p:Int)]
 q:oQ H o t x lx
 c:oQ H o u y ly
structure Two (B:aa) (b:aj) (p:Nat) (t u:Int):Prop where
 Rc:oZ t p
 at2:oZ u p
 ne:t≠u
 ft: ∀i,i<B.length→b i≠t
 fu: ∀i,i<B.length→b i≠u
theorem P0 (B:aa)(b:aj)(p:Nat): ∃t u,Two B b p t u:=by
 obtain⟨t,h1,h2⟩:=gI b B.length;exact⟨t,t-1,⟨by omega,by omega,by omega⟩,⟨by omega,by omega,by omega⟩,by omega,λi hi=>by have:=h2 i hi;omega,λi hi=>by have:=h2 i hi;omega⟩
section
variable {B:aa} {b:aj} {u:Int} {y:Value} {lx ly:List Int}
theorem De.fg (h2:Two B b p t u):bH [(p:Int)] (De B b p t u x lx y ly):=λH o H' o' h f=>⟨h.fr.tr f,h.q.fr f (by simpa using h2.Rc.ne),h.c.fr f (by simpa using h2.at2.ne)⟩
variable {α:Type} {k:Nat→Value→aa→Option α} {Q:α→Prop} {a:Int} {T ty:TypeId}
end
theorem Df (n a:Int):dj n (some (cv a))=some a:=rfl
end
section
open Go.Proofs.YtgfgglponbmgmaaGreatA
variable {G:ae} {H H':aa} {o o':aj} {p c:Nat} {K:aa→aj→Prop} {t:Int} {x:Value} {l:PL} {st Nz s1:Y.St} {α β:Type}
theorem P1 (n:Int): ∀(b:Nat) (r:Int),Y.js n b r=js n b r
 |0,r=>rfl
 |b+1,r=>by unfold Y.js js;exact P1 n b _
theorem pU (n:Int):Y.bq n=bq n:=by unfold Y.bq bq Y.jt jt;simp only[P1]
theorem sL (n i:Int):Y.cj n i=cj n i:=by unfold Y.cj cj;simp only[pU]
theorem P2 (n:Int): ∀i,Y.cG n i=cG n i
 |0=>rfl
 |i+1=>by unfold Y.cG cG;rw[P2 n i,sL]
theorem Vd (n i:Int):Y.gN n i=gN n i:=by unfold Y.gN gN;simp only[pU,P2]
theorem nH (h:JX K p st H)(s:Int){q c:Value}{lq lc:List Int}(hq:eO H q lq)(hc:eO H c lc)(hl:lq.length+lc.length≤1000000):
  aF (run G) 131 [cv s,q,c] H λw H'=>PH K p st (Y.cT s lq lc) H' w:=by
 refine Ev.up (t:=λn=>OE (run G n) n (cv s) q c H) ?_ λn=>Ir ..
 simp -implicitDefEqProofs only[OE,hq.len,hc.len,sS,Nat.reduceAdd];have hw:IntKind.i64.wrap ((lq.length:Int)+1)=lq.length+1:=ga (by omega)
 rw[hw];refine Ev.neq (λh1=>?_) (λh1=>?_)<;>try simp -implicitDefEqProofs only[hc.len,PJ,sS,Nat.reduceAdd]
 ·rw[show Y.cT s lq lc=[] by unfold Y.cT;rw[if_pos (by omega)]]
  exact Ev.ret h.Hc
 rw[Y.uf (by omega)]
 obtain⟨hK,o,hr,hk⟩:=h;obtain⟨t,ht,hf⟩:=gI o H.length;have s1:=oQ.new H o t 2 [(lc.length:Int),s,0,0,0];have f1:Fr H o (H.new ⟨[cv lc.length,cv s,cv 0,cv 0,cv 0],2,1,false⟩) (o.up H.length t) [t]:=(Fr.refl H o [t]).new _ _;obtain⟨H1,e1⟩: ∃z,z=H.new ⟨[cv lc.length,cv s,cv 0,cv 0,cv 0],2,1,false⟩:=⟨_,rfl⟩;have keep: ∀{x:Value} {l:List Int} {H2:aa} {o2:aj},eO H x l→Fr H o H2 o2 [t]→eO H2 x l:=λhx f=>hx.keep λi b e dC=>by
  rcases hx with⟨e1,e2⟩|⟨j,off,cc,e1,hb⟩
  ·exact absurd e2 dC
  ·obtain⟨bb,g1,_⟩:=hb dC;rw[e1] at e;cases e;exact f.same j (ar g1) (by have:=hf j (ar g1);simp;omega)
 obtain⟨x2,H2,o2,a2,s2,f2,_⟩:=kg (H:=H1) 2 (by rw[e1];exact s1) (keep hq (by rw[e1];exact f1)) (by simp;omega)
 have f12:Fr H o H2 o2 [t]:=by rw[e1] at f2;exact f1.tr f2
 obtain⟨x3,H3,o3,a3,s3,f3,_⟩:=kg 2 s2 (keep hc f12) (by simp;omega)
 have f13:=f12.tr f3;have eH:H.new ⟨[cv lc.length,cv s,cv 0,cv 0,cv 0],2,1,false⟩=H1:=e1.symm;simp -implicitDefEqProofs only[eH,List.length_cons,List.length_nil,sS,Nat.reduceAdd] at a2;simp -implicitDefEqProofs only[eH,a2,a3,sS,Nat.reduceAdd];have f0:Fr H o H3 o3 []:=iS f13 λi hi=>by have:=hf i hi;omega
 let o4:aj:=λi=>if H.length≤i∧o3 i=t then -51 else o3 i
 have f4:Fr H o H3 o4 []:=⟨f0.slot,λi hi=>by show(if H.length≤i∧o3 i=t then(-51:Int) else o3 i)=_;rw[if_neg (by omega)];exact f0.own i hi,f0.size⟩
 refine Ev.ret ⟨hK,o4,hr.fr f4 (by simp) (by simp) (by simp),hK _ _ _ _ hk (f4.wk (by simp)),s3.ints.1,λb n cc e dC=>?_⟩
 obtain⟨g1,g2⟩:=s3.ints.2 b n cc e dC;refine⟨g1,?_⟩;show(if H.length≤b.block∧o3 b.block=t then(-51:Int) else o3 b.block)= -51
 have ZH:H.length≤b.block:=by
  rcases Nat.lt_or_ge b.block H.length with g|g
  ·have a1:=f13.own _ g;have a2:=hf _ g;omega
  ·exact g
 rw[if_pos ⟨ZH,g2⟩]
section
variable {B:aa} {b:aj} {u:Int} {y:Value} {lx ly:List Int} {k:Nat→Value→aa→Option α} {Q:α→Prop} {a:Int} {T ty:TypeId}
theorem Ev.abf (h2:Two B b p t u)(h:JX (De B b p t u x lx y ly) p st H)(hb:lx.length+1≤4294967296)(hk: ∀x' H',JX (De B b p t u x' (lx++[a]) y ly) p st H'→Ev (λn=>k n x' H') Q):
  Ev (λn=>af (dk T 1 8 x (.slice (some ⟨H.length,0,none⟩) 1 1) (H.new ⟨[cv a],ty,1,false⟩)) (k n)) Q:=by
 obtain⟨_,o,hr,hf,hx,hy⟩:=h;obtain⟨s',H2,o2,e,s2,f2⟩:=PZ T ty a hx hb;rw[e];refine hk s' H2 ⟨De.fg h2,o2,hr.fr f2 ?_ ?_ ?_,iS (hf.trans f2 (rs:=[t,(p:Int)]) (by simp) (by simp)) h2.ft,s2,hy.fr f2 ?_⟩
 ·simp;exact λe=>h2.Rc.ne e.symm
 ·simp;exact λe=>h2.Rc.n0 e.symm
 ·simp;exact λe=>h2.Rc.n1 e.symm
 ·simp;exact λe=>h2.ne e.symm
theorem Ev.abg (h2:Two B b p t u)(h:JX (De B b p t u x lx y ly) p st H)(hb:ly.length+1≤4294967296)(hk: ∀y' H',JX (De B b p t u x lx y' (ly++[a])) p st H'→Ev (λn=>k n y' H') Q):
  Ev (λn=>af (dk T 1 8 y (.slice (some ⟨H.length,0,none⟩) 1 1) (H.new ⟨[cv a],ty,1,false⟩)) (k n)) Q:=by
 obtain⟨_,o,hr,hf,hx,hy⟩:=h;obtain⟨s',H2,o2,e,s2,f2⟩:=PZ T ty a hy hb;rw[e];refine hk s' H2 ⟨De.fg h2,o2,hr.fr f2 ?_ ?_ ?_,iS (hf.trans f2 (rs:=[u,(p:Int)]) (by simp) (by simp)) h2.fu,hx.fr f2 ?_,s2⟩
 ·simp;exact λe=>h2.at2.ne e.symm
 ·simp;exact λe=>h2.at2.n0 e.symm
 ·simp;exact λe=>h2.at2.n1 e.symm
 ·simp;exact λe=>h2.ne e
end
theorem P3: ∀(N:Nat) {K:aa→aj→Prop} {H:aa} {st:Y.St} {x:Value} {L:PL} {q:Int},L.length=N→N≤2147483648→JX K p st H→q≠(p:Int)→(∀H o,K H o→gT H o q x L)→∀{f:Nat},N+1≤f→aF (run G) 123 [pv p,x] H (iN K p st (Y.iM f L)):=by
 intro N;induction N using Nat.strongRecOn with
 |ind N ih=>
 intro K H st x L q hN hN2 h hq hx f hf;obtain⟨fy,rfl⟩: ∃fy,f=fy+1:=⟨f-1,by omega⟩
 refine Ev.up (t:=λn=>Xe (run G n) n (pv p) x H) ?_ λn=>R4 ..
 obtain⟨hK,o,hr,hk⟩:=id h;have hs:=hx _ _ hk;simp -implicitDefEqProofs only[Xe,hs.len,sS,Nat.reduceAdd];refine Ev.eql (λh0=>?_) (λh0=>?_)<;>try simp -implicitDefEqProofs only[sS,Nat.reduceAdd]
 ·have eL:L=[]:=List.length_eq_zero_iff.1 (by omega)
  subst eL;refine Ev.Tl (sI h) λw Hz hw=>?_
  refine Ev.sH (nE hw) λz s1 Hz ez hj=>?_
  try simp -implicitDefEqProofs only[sS,Nat.reduceAdd]
  refine Ev.is (n5 _ _) ?_
  try simp -implicitDefEqProofs only[sS,Nat.reduceAdd]
  refine Ev.ret (iN.of hj ?_);unfold Y.iM;simp only[Y.al,bn,bG,bM,cW,cX,ne_eq,not_true_eq_false,not_false_eq_true,if_true,if_false,Bool.not_true,Bool.not_false,true_and,and_true,false_and,and_false,true_or,or_true,false_or,or_false,Bool.false_eq_true,decide_true,decide_false,ez]
 refine Ev.eql (λh1=>?_) (λh1=>?_)<;>try simp -implicitDefEqProofs only[sS,Nat.reduceAdd]
 ·obtain⟨kv,rfl⟩:=List.length_eq_one_iff.1 (show L.length=1 by omega)
  obtain⟨i,off,b,e1,e2,e3,e4⟩:=hs.idx (j:=0) (by omega)
  obtain⟨e5,e6,_⟩:=e4 H e2;simp only[Int.natCast_zero] at e1;simp -implicitDefEqProofs only[e1,gX,Nat.add_zero,e5,e6,sS,Nat.reduceAdd];refine Ev.Tl (uJ h _ _) λw Hz hw=>?_
  refine Ev.sH (nE hw) λz s1 Hz ez hj=>?_
  try simp -implicitDefEqProofs only[sS,Nat.reduceAdd]
  refine Ev.is (n5 _ _) ?_
  try simp -implicitDefEqProofs only[sS,Nat.reduceAdd]
  refine Ev.ret (iN.of hj ?_);unfold Y.iM;simp only[Y.al,bn,bG,bM,cW,cX,ne_eq,not_true_eq_false,not_false_eq_true,if_true,if_false,Bool.not_true,Bool.not_false,true_and,and_true,false_and,and_false,true_or,or_true,false_or,or_false,Bool.false_eq_true,decide_true,decide_false];have ez':Y.ah (Y.mk [kv.1,kv.2]) st=(z,s1):=ez;simp only[ez']
 obtain⟨t,u,h2⟩:=P0 H o p;have hd:=pD L.length;have iq: ∀{xq xc:Value} {lq lc:List Int} {s':Y.St} {H':aa},JX (De H o p t u xq lq xc lc) p s' H'→JX K p s' H':=λhj=>hj.mono hK λo' hg=>hK _ _ _ _ hk hg.fr
 have vn: ∀(H':aa) (o':aj),Fr H o H' o' [(p:Int)]→gT H' o' q x L:=λH' o' f=>hs.fr f (by simpa using hq)
 have YA:JX (De H o p t u (.slice none 0 0) [] (.slice none 0 0) []) p st H:=⟨De.fg h2,o,hr,Fr.refl _ _ _,.inl ⟨rfl,rfl⟩,.inl ⟨rfl,rfl⟩⟩;have B:Y.ah (Y.iM (fy+1) L) st=Y.ah (Y.lz fy L (bq L.length).toNat 0 [] []) st:=by
  match L,h0,h1 with
  | [],h0,_=>exact absurd rfl h0
  | [a],_,h1=>exact absurd rfl h1
  |a::b::l,_,_=>
   conv=>lhs;unfold Y.iM
   simp only[pU]
 generalize hT:Y.ah (Y.iM (fy+1) L) st=T at B
 refine Ev.loop (k:=(bq L.length).toNat) (λk vs H1=>∃(i:Nat) (xq xc:Value) (lq lc:List Int) (sx:Y.St) (x4 x5 bB x7 x8 cu x9 aC eI gD aM bf po aS aZ aX:Value),JX (De H o p t u xq lq xc lc) p sx H1∧lc.length=i∧lq.length≤i∧(i:Int)+k=bq L.length∧T=Y.ah (Y.lz fy L k i lq lc) sx∧vs=[pv p,x,x4,x5,cv L.length,bB,x7,x8,cu,x9,aC,cv i,eI,gD,xq,aM,bf,po,xc,aS,aZ,aX])
  (λr=>(∃(xq xc:Value) (lq lc:List Int) (sx:Y.St),JX (De H o p t u xq lq xc lc) p sx r.2.2∧r.2.1[14]? =some xq∧r.2.1[18]? =some xc∧((r.1= .exit 0∧lq.length≤128∧lc.length≤128∧T=Y.ah (Y.lz fy L 0 lc.length lq lc) sx)∨(r.1= .ret∧T=((0,false),sx)∧r.2.1[2]? =some (cv 0)∧r.2.1[3]? =some (.bool false))))∧∃(x4 x5 bB x7 x8 cu x9 aC aI eI gD aO aM bf po aN aS aZ aX:Value),r.2.1=[pv p,x,x4,x5,cv L.length,bB,x7,x8,cu,x9,aC,aI,eI,gD,aO,aM,bf,po,aN,aS,aZ,aX])
  ⟨0,_,_,[],[],st,_,_,_,_,_,_,_,_,_,_,_,_,_,_,_,_,YA,rfl,by simp,by omega,B,rfl⟩ ?_ ?_
 ·rintro k vs H1 ⟨i,xq,xc,lq,lc,sx,x4,x5,bB,x7,x8,cu,x9,aC,eI,gD,aM,bf,po,aS,aZ,aX,hj,DB,Ve,hik,E,rfl⟩;simp -implicitDefEqProofs only[Lu,xR,sS,Nat.reduceAdd];refine Ev.call (kh _) ?_;rintro v Q8 ⟨rfl,rfl⟩
  try simp -implicitDefEqProofs only[sS,Nat.reduceAdd]
  refine Ev.lss (λqA=>?_) (λqA=>?_)<;>try simp -implicitDefEqProofs only[sS,Nat.reduceAdd]
  ·refine Ev.call (PC _ _) ?_;rintro v Q8 ⟨rfl,rfl⟩
   try simp -implicitDefEqProofs only[sS,Nat.reduceAdd]
   have sT:2≤(L.length:Int)∧(L.length:Int)≤16384:=by
    rcases Int.lt_or_le 16384 (L.length:Int) with g2|g2
    ·have:=nC (n:=(L.length:Int)) (.inr g2);omega
    ·exact⟨by omega,g2⟩
   have uU:=ki sT (i:=i) (by omega)
   have hpt:=vZ sT (i:=i) qA;have zP:=zd L.length i;have hfe:gN L.length i=cG L.length i:=by rw[gN,if_neg (by omega),Int.toNat_natCast]
   have hw:IntKind.i64.wrap ((i:Int)+1)=((i+1:Nat):Int):=by rw[ga (by omega)];omega
   have w7:IntKind.i64.wrap (cG L.length i+cj L.length i)=cG L.length i+cj L.length i:=ga (by omega)
   obtain⟨at_,ZX⟩: ∃z:Nat,(z:Int)=cG L.length i:=⟨(cG L.length i).toNat,by omega⟩
   obtain⟨uK,abh⟩: ∃z:Nat,(z:Int)=cj L.length i:=⟨(cj L.length i).toNat,by omega⟩
   obtain⟨k1,rfl⟩: ∃k1,k=k1+1:=⟨k-1,by omega⟩
   have eat:(Y.gN L.length i).toNat=at_:=by rw[Vd,hfe];omega
   have esz:(Y.cj L.length i).toNat=uK:=by rw[sL];omega
   have E':T=Y.ah (Y.iM fy ((L.drop at_).take uK) >>= λwo=>if wo.2=false then pure (0,false) else Y.lz fy L k1 (i+1) (if i>0 then lq++[(L.getD at_ (0,0)).1] else lq) (lc++[wo.1])) sx:=by
    rw[E];conv=>lhs;unfold Y.lz
    rw[eat,esz]
   rw[hfe];have J2: ∀{xq xc:Value} {P4 lc:List Int} {H1:aa} (x4 x5 bB x7 x8 cu x9 aC eI gD bf po aS aZ aX:Value),JX (De H o p t u xq P4 xc lc) p sx H1→P4.length≤i+1→lc.length=i→T=Y.ah (Y.iM fy ((L.drop at_).take uK) >>= λwo=>if wo.2=false then pure (0,false) else Y.lz fy L k1 (i+1) P4 (lc++[wo.1])) sx→Ev (λn=>vI (run G n) n [pv p,x,x4,x5,cv L.length,bB,x7,x8,cu,x9,aC,cv i,eI,gD,xq,cv (cG L.length i),bf,po,xc,aS,aZ,aX] H1) λr=>(r.1= .normal∧∃k',k'<k1+1∧∃(i:Nat) (xq xc:Value) (lq lc:List Int) (sx:Y.St) (x4 x5 bB x7 x8 cu x9 aC eI gD aM bf po aS aZ aX:Value),JX (De H o p t u xq lq xc lc) p sx r.2.2∧lc.length=i∧lq.length≤i∧(i:Int)+k'=bq L.length∧T=Y.ah (Y.lz fy L k' i lq lc) sx∧r.2.1=[pv p,x,x4,x5,cv L.length,bB,x7,x8,cu,x9,aC,cv i,eI,gD,xq,aM,bf,po,xc,aS,aZ,aX])∨(r.1≠ .normal∧(∃(xq xc:Value) (lq lc:List Int) (sx:Y.St),JX (De H o p t u xq lq xc lc) p sx r.2.2∧r.2.1[14]? =some xq∧r.2.1[18]? =some xc∧((r.1= .exit 0∧lq.length≤128∧lc.length≤128∧T=Y.ah (Y.lz fy L 0 lc.length lq lc) sx)∨(r.1= .ret∧T=((0,false),sx)∧r.2.1[2]? =some (cv 0)∧r.2.1[3]? =some (.bool false))))∧∃(x4 x5 bB x7 x8 cu x9 aC aI eI gD aO aM bf po aN aS aZ aX:Value),r.2.1=[pv p,x,x4,x5,cv L.length,bB,x7,x8,cu,x9,aC,aI,eI,gD,aO,aM,bf,po,aN,aS,aZ,aX]):=by
    intro xq xc P4 lc H1 x4 x5 bB x7 x8 cu x9 aC eI gD bf po aS aZ aX hj Ve DB E;simp -implicitDefEqProofs only[Ls,xQ,sS,Nat.reduceAdd];refine Ev.call (y7 _ _) ?_;rintro v Q8 ⟨rfl,rfl⟩;simp -implicitDefEqProofs only[w7,sS,Nat.reduceAdd];obtain⟨_,o1,u6,hg⟩:=id hj;obtain⟨y,MX,FK⟩:=(vn _ _ hg.fr).cut (m:=at_) (n:=at_+uK) (lo:=some (cv (cG L.length i))) (hi:=some (cv (cG L.length i+cj L.length i))) (by omega) (by omega) (by rw[Df,ZX]) (by rw[Df];congr 1;omega)
    simp -implicitDefEqProofs only[MX,sS,Nat.reduceAdd];have YG:(L.take (at_+uK)).drop at_=(L.drop at_).take uK:=by rw[List.drop_take];congr 1;omega
    rw[YG] at FK;have hjy:JX (λH' o'=>De H o p t u xq P4 xc lc H' o'∧gT H' o' q y ((L.drop at_).take uK)) p sx _:=⟨(De.fg h2).and (bH.kJ (by simpa using hq)),o1,u6,hg,FK⟩
    refine Ev.Fc (ih ((L.drop at_).take uK).length ?_ rfl ?_ hjy hq (λH' o' a=>a.2) (f:=fy) ?_) λz zb s1 Hz ez NC=>?_
    ·simp;omega
    ·simp;omega
    ·simp;omega
    have zu:=NC.mono (De.fg h2) λo' a=>a.1
    rw[Y.aJ ez] at E;simp -implicitDefEqProofs only[Ar,sS,Nat.reduceAdd];cases zb<;>try simp -implicitDefEqProofs only[Ar,sS,Nat.reduceAdd]
    ·exact Ev.ret (.inr ⟨by simp,⟨_,_,_,_,s1,zu,rfl,rfl,.inr ⟨rfl,E,rfl,rfl⟩⟩,_,_,_,_,_,_,_,_,_,_,_,_,_,_,_,_,_,_,_,rfl⟩)
    ·refine Ev.abg h2 zu (by omega) λx' Hz hj=>?_
     simp -implicitDefEqProofs only[Lq,xP,hw,sS,Nat.reduceAdd];refine Ev.ret (.inl ⟨rfl,k1,by omega,i+1,_,_,_,_,s1,_,_,_,_,_,_,_,_,_,_,_,_,_,_,_,_,hj,by simp[DB],Ve,by omega,?_,rfl⟩)
     rw[E];simp only[Bool.true_eq_false,if_false]
   refine Ev.gtr (λkn=>?_) (λkn=>?_)<;>try simp -implicitDefEqProofs only[sS,Nat.reduceAdd]
   ·obtain⟨_,o1,u6,hg⟩:=id hj;obtain⟨i',off,b',e1,e2,e3,e4⟩:=(vn _ _ hg.fr).idx (j:=at_) (by omega)
    obtain⟨e5,e6,_⟩:=e4 _ e2;rw[ZX] at e1;simp -implicitDefEqProofs only[e1,gX,Nat.add_zero,e5,Ar,sS,Nat.reduceAdd];refine Ev.abf h2 hj (by omega) λx' Hz hj=>?_
    rw[if_pos (show i>0 by omega)] at E'
    exact J2 _ _ _ _ _ _ _ _ _ _ _ _ _ _ _ hj (by simp;omega) DB E'
   ·rw[if_neg (show ¬i>0 by omega)] at E'
    exact J2 _ _ _ _ _ _ _ _ _ _ _ _ _ _ _ hj (by omega) DB E'
  ·have:k=0:=by omega
   subst this;subst DB;exact Ev.ret (.inr ⟨by simp,⟨_,_,_,_,sx,hj,rfl,rfl,.inl ⟨rfl,by omega,by omega,E⟩⟩,_,_,_,_,_,_,_,_,_,_,_,_,_,_,_,_,_,_,_,rfl⟩)
 ·rintro e vs H1 ⟨⟨xq,xc,lq,lc,sx,hj,e14,e18,he⟩,x4,x5,bB,x7,x8,cu,x9,aC,aI,eI,gD,aO,aM,bf,po,aN,aS,aZ,aX,rfl⟩;simp only[List.getElem?_cons_succ,List.getElem?_cons_zero,Option.some.injEq] at e14 e18;subst e14 e18;rcases he with⟨he,Ve,DB,E⟩|⟨he,E,e1,e2⟩
  ·simp only at he;subst he;simp -implicitDefEqProofs only[Lv,xS,sS,Nat.reduceAdd];obtain⟨_,o1,u6,hg⟩:=id hj;refine Ev.Tl (nH (iq hj) _ hg.q.ints.1 hg.c.ints.1 (by omega)) λw Hz hjw=>?_
   refine Ev.sH (nE hjw) λz s1 Hz ez hj=>?_
   try simp -implicitDefEqProofs only[sS,Nat.reduceAdd]
   refine Ev.is (n5 _ _) ?_
   try simp -implicitDefEqProofs only[sS,Nat.reduceAdd]
   refine Ev.ret (iN.of hj ?_);rw[hT,E];unfold Y.lz;simp only[Y.al,bn,bG,bM,cW,cX,ne_eq,not_true_eq_false,not_false_eq_true,if_true,if_false,Bool.not_true,Bool.not_false,true_and,and_true,false_and,and_false,true_or,or_true,false_or,or_false,Bool.false_eq_true,decide_true,decide_false,ez]
  ·simp only at he;subst he;simp only[List.getElem?_cons_succ,List.getElem?_cons_zero,Option.some.injEq] at e1 e2;subst e1 e2;show Ev (λ_=>some (Value.tuple #[cv 0,.bool false],H1)) _
   exact Ev.ret (iN.of (iq hj) (by rw[hT,E]))
end
section
variable {G:ae} {H H':aa} {o o':aj} {p m c:Nat} {K:aa→aj→Prop} {t:Int} {x:Value} {l:PL}
theorem wh (n:Nat):bK [cv 0] n=(List.replicate n (0:Int)).map cv:=by
 simp[bK,List.flatten_replicate_singleton]
theorem abi (a b c:Int)(H:aa):dL 37 (.agg #[cv a,cv b,cv c]) H=some (pv H.length,H.new ⟨[cv a,cv b,cv c],37,1,false⟩):=by
 simp[dL,Value.cells,aD,aV]
end
end Go.Proofs.YtgfgglponbmgmaaGreat.Fun
end
