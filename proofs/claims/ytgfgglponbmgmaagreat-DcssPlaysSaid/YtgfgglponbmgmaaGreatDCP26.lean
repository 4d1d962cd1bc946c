/- Texts of the proof of dcssPlays_holds, put together by a small program of ours (names shortened, spaces taken out). No condition beyond the given statement. -/
import Derived.Test.YtgfgglponbmgmaaGreatDCP16
import Derived.Test.YtgfgglponbmgmaaGreatDCP25
import Derived.Test.YtgfgglponbmgmaaGreatDCP12
import Derived.Test.YtgfgglponbmgmaaGreatDCP22
set_option linter.unusedVariables false
set_option linter.unusedSimpArgs false
set_option linter.unnecessarySimpa false
noncomputable section
section
namespace Go.Proofs.YtgfgglponbmgmaaGreat.Fun
open Go Go.RowKit Go.Proofs.YtgfgglponbmgmaaGreatA.Am
set_option maxRecDepth 10000
section
open Go.Proofs.YtgfgglponbmgmaaGreatA
variable {G:ae} {H H':aa} {o o':aj} {p:Nat} {K:aa→aj→Prop} {st No s1:Y.St} {α β:Type}
theorem Bu {a z:Int}{f:Nat}{s s':Y.St}(e:Y.ah (Y.kD f a) s=(z,s')):s'.left≤s.left-1:=by
 unfold Y.kD at e;rw[Y.al] at e;have h1:(Y.ah (Y.rd a) s).2.left=s.left-1:=dr rfl;have h2:=dt e;omega
theorem MH {a z:Int}{s s':Y.St}(e:Y.ah (Y.sw a) s=(z,s')):s'.left≤s.left-1:=by
 unfold Y.sw at e;rw[Y.al] at e;have h1:(Y.ah (Y.rd a) s).2.left=s.left-1:=dr rfl;have h2:=dt e;omega
theorem JX.left (h:JX K p st H):st.left≤1048577:=by
 obtain⟨hK,o,⟨tape,w,T,W,i,nk,na,nx,ny,ty,g,ho,ht,hT,hw,hi,hr,_⟩,hk⟩:=h;unfold Y.St.left;split
 ·omega
 ·rw[hr];simp;omega
theorem Bv {n d i all:Int}{f:Nat}{s:Y.St}{g:Int→Y.Tr β}(h:s.off=true∨¬i<d):Y.ah (Y.iE f n d i all >>= g) s=Y.ah (g all) s:=by
 cases f with
 |zero=>unfold Y.iE;rfl
 |succ f=>
  rw[Y.al];unfold Y.iE;by_cases h1:i<d
  ·rw[if_neg (by omega)]
   have h2:=h.resolve_right (λx=>x h1)
   simp only[Y.al,bo,bK,bO,cS,cT,ne_eq,not_true_eq_false,not_false_eq_true,if_true,if_false,Bool.not_true,Bool.not_false,true_and,and_true,false_and,and_false,true_or,or_true,false_or,or_false,Bool.false_eq_true,decide_true,decide_false,h2]
  ·rw[if_pos h1];rfl
theorem P1 {n d i all:Int}{f:Nat}{s:Y.St}{g:Int→Y.Tr β}(h:s.off=false)(h1:i<d):Y.ah (Y.iE (f+1) n d i all >>= g) s=Y.ah (Y.kD f (Y.dp n d i) >>= λw=>
  (if Y.kd w=2 then Y.iE f n d (i+1) (Y.wr (all+1)) else
  if Y.kd w=3 then Y.kf f (Y.aw w) >>= λz=>Y.iE f n d (i+1) (Y.wr (all+z))
  else if Y.kd w=4 then Y.rd (Y.aw w) >>= λt=>Y.kf f (Y.aw t) >>= λz=>Y.iE f n d (i+1) (Y.wr (all+z))
  else Y.iE f n d (i+1) all) >>= g) s:=by
 rw[Y.al]
 conv=>lhs;unfold Y.iE
 rw[if_neg (by omega)]
 simp only[Y.al,bo,bK,bO,cS,cT,ne_eq,not_true_eq_false,not_false_eq_true,if_true,if_false,Bool.not_true,Bool.not_false,true_and,and_true,false_and,and_false,true_or,or_true,false_or,or_false,Bool.false_eq_true,decide_true,decide_false,h]
theorem Zd: ∀(f:Nat) {st:Y.St} {H:aa},JX K p st H→st.left≤f→∀{a:Int},(-9223372036854775808≤a∧a≤65536)→aF (run G) 121 [pv p,cv a] H (oO K p st (Y.kf (f+1) a)):=by
 intro f;induction f using Nat.strongRecOn with
 |ind f ih=>
 intro st H h hf a ha;have w4: ∀{j:Int},0≤j∧j≤8→IntKind.i64.wrap (a+j)=a+j:=λhj=>by rw[gz (by omega)]
 refine Ev.up (t:=λn=>Yl (run G n) n (pv p) (cv a) H) ?_ λn=>SD ..
 simp -implicitDefEqProofs only[Yl,sS,Nat.reduceAdd,w4 (j:=4) (by omega)]
 refine Ev.eY (de h _) λq1 s1 H1 e1 fH=>?_
 try simp -implicitDefEqProofs only[sS,Nat.reduceAdd]
 refine Ev.neq (λh1=>?_) (λh1=>?_)<;>try simp -implicitDefEqProofs only[sS,Nat.reduceAdd,cG]
 ·refine Ev.ret (oO.of fH ?_);unfold Y.kf;simp only[Y.al,bo,bK,bO,cS,cT,ne_eq,not_true_eq_false,not_false_eq_true,if_true,if_false,Bool.not_true,Bool.not_false,true_and,and_true,false_and,and_false,true_or,or_true,false_or,or_false,Bool.false_eq_true,decide_true,decide_false, *]
 rw[←cG,w4 (j:=2) (by omega)]
 refine Ev.unX (C3 fH _ _) λv u s2 H2 e2 fI=>?_
 try simp -implicitDefEqProofs only[sS,Nat.reduceAdd]
 refine Ev.eY (de fI _) λd s3 H3 e3 gE=>?_
 try simp -implicitDefEqProofs only[sS,Nat.reduceAdd]
 have l1:=dr e1;have l2:=dt e2;have l3:=dr e3;have lst:=h.left;have B:Y.ah (Y.kf (f+1) a) st=Y.ah (Y.iE f a d 0 0 >>= λall=>Y.wt (a+4) (Y.wr (all+1)) >>= λ_=>pure all) s3:=by
  conv=>lhs;unfold Y.kf
  simp only[Y.al,bo,bK,bO,cS,cT,ne_eq,not_true_eq_false,not_false_eq_true,if_true,if_false,Bool.not_true,Bool.not_false,true_and,and_true,false_and,and_false,true_or,or_true,false_or,or_false,Bool.false_eq_true,decide_true,decide_false,e1,e2,e3,h1]
 have hinv:s3.left+1≤f∨s3.off=true:=by
  by_cases ho:s3.off=true
  ·exact .inr ho
  ·have:1≤s3.left:=iM (by simpa using ho)
   exact .inl (by omega)
 refine Ev.loop (k:=s3.left) (λk vs Hx=>∃(i s:Int) (sx:Y.St) (fx:Nat) (x4 x5 aX bJ x9 dL cZ dY aD gQ:Value),vs=[pv p,cv a,x4,x5,aX,cv i,cv d,bJ,x9,dL,cZ,cv s,dY,aD,gQ]∧JX K p sx Hx∧k=sx.left∧fx≤f∧(sx.left+1≤fx∨sx.off=true)∧0≤i∧i+sx.left≤st.left∧Y.ah (Y.kf (f+1) a) st=Y.ah (Y.iE fx a d i s >>= λall=>Y.wt (a+4) (Y.wr (all+1)) >>= λ_=>pure all) sx)
  (λr=>r.1= .exit 0∧∃(i s:Int) (sx:Y.St) (x4 x5 aX bJ x9 dL cZ dY aD gQ:Value),r.2.1=[pv p,cv a,x4,x5,aX,cv i,cv d,bJ,x9,dL,cZ,cv s,dY,aD,gQ]∧JX K p sx r.2.2∧Y.ah (Y.kf (f+1) a) st=Y.ah (Y.wt (a+4) (Y.wr (s+1)) >>= λ_=>pure s) sx) ⟨0,0,s3,f,_,_,_,_,_,_,_,_,_,_,rfl,gE,rfl,Nat.le_refl _,hinv,by omega,by omega,B⟩ ?_ ?_
 ·rintro k vs Hx ⟨i,s,sx,fx,x4,x5,aX,bJ,x9,dL,cZ,dY,aD,gQ,rfl,hj,rfl,hfx,pU,hi,hil,E⟩;simp -implicitDefEqProofs only[LJ,yn,sS,Nat.reduceAdd];refine Ev.lss (λh2=>?_) (λh2=>?_)<;>try simp -implicitDefEqProofs only[sS,Nat.reduceAdd]
  ·refine Ev.n3 hj (λhq=>?_) (λhq=>?_)<;>try simp -implicitDefEqProofs only[sS,Nat.reduceAdd]
   ·rw[Bv (.inl hq)] at E;exact Ev.ret (.inr ⟨by simp,rfl,i,s,sx,_,_,_,_,_,_,_,_,_,_,rfl,hj,E⟩)
   have l4:=iM hq;have P2:sx.left+1≤fx:=pU.resolve_right (by rw[hq];simp)
   obtain⟨fy,rfl⟩: ∃fy,fx=fy+2:=⟨fx-2,by omega⟩
   rw[P1 hq h2] at E;refine Ev.is (kQ _ _ _) ?_;refine Ev.eY (G8 hj (f:=fy+1) (by omega) _) λw t1 G1 f1 k1=>?_
   have m1:=Bu f1;rw[Y.aI f1] at E
   try simp -implicitDefEqProofs only[sS,Nat.reduceAdd]
   refine Ev.is (n5 _) ?_
   try simp -implicitDefEqProofs only[sS,Nat.reduceAdd]
   refine Ev.is (js _) ?_
   try simp -implicitDefEqProofs only[sS,Nat.reduceAdd]
   have wi:IntKind.i64.wrap (i+1)=i+1:=gz (by omega)
   have TF: ∀{s':Int} {sy:Y.St} {Hy:aa} {x4 x5 aX bJ x9 dL cZ dY aD gQ:Value},JX K p sy Hy→sy.left≤sx.left-1→Y.ah (Y.kf (f+1) a) st=Y.ah (Y.iE (fy+1) a d (i+1) s' >>= λall=>Y.wt (a+4) (Y.wr (all+1)) >>= λ_=>pure all) sy→
     Ev (λn=>po (run G n) n [pv p,cv a,x4,x5,aX,cv i,cv d,bJ,x9,dL,cZ,cv s',dY,aD,gQ] Hy) λr=>(r.1= .normal∧∃k',k'<sx.left∧∃(i s:Int) (sx:Y.St) (fx:Nat) (x4 x5 aX bJ x9 dL cZ dY aD gQ:Value),r.2.1=[pv p,cv a,x4,x5,aX,cv i,cv d,bJ,x9,dL,cZ,cv s,dY,aD,gQ]∧JX K p sx r.2.2∧k'=sx.left∧fx≤f∧(sx.left+1≤fx∨sx.off=true)∧0≤i∧i+sx.left≤st.left∧Y.ah (Y.kf (f+1) a) st=Y.ah (Y.iE fx a d i s >>= λall=>Y.wt (a+4) (Y.wr (all+1)) >>= λ_=>pure all) sx)∨(r.1≠ .normal∧r.1= .exit 0∧∃(i s:Int) (sx:Y.St) (x4 x5 aX bJ x9 dL cZ dY aD gQ:Value),r.2.1=[pv p,cv a,x4,x5,aX,cv i,cv d,bJ,x9,dL,cZ,cv s,dY,aD,gQ]∧JX K p sx r.2.2∧Y.ah (Y.kf (f+1) a) st=Y.ah (Y.wt (a+4) (Y.wr (s+1)) >>= λ_=>pure s) sx):=by
    intro s' sy Hy x4 x5 aX bJ x9 dL cZ dY aD gQ hy ly Ey;simp -implicitDefEqProofs only[LI,ym,sS,Nat.reduceAdd,wi];exact Ev.ret (.inl ⟨rfl,sy.left,by omega,i+1,s',sy,fy+1,_,_,_,_,_,_,_,_,_,_,rfl,hy,rfl,by omega,.inl (by omega),by omega,by omega,Ey⟩)
   refine Ev.eql (λk2=>?_) (λk2=>?_)<;>try simp -implicitDefEqProofs only[sS,Nat.reduceAdd,cG]
   ·rw[if_pos k2] at E;exact TF k1 m1 E
   refine Ev.eql (λk3=>?_) (λk3=>?_)<;>try simp -implicitDefEqProofs only[sS,Nat.reduceAdd,cG]
   ·rw[if_neg k2,if_pos k3] at E;refine Ev.eY (ih fy (by omega) k1 (by omega) (qe _)) λz t2 G2 f2 k2'=>?_
    have m2:=dt f2;simp only[Y.bind_assoc] at E;rw[Y.aI f2] at E
    try simp -implicitDefEqProofs only[sS,Nat.reduceAdd,cG]
    exact TF k2' (by omega) E
   refine Ev.eql (λk4=>?_) (λk4=>?_)<;>try simp -implicitDefEqProofs only[sS,Nat.reduceAdd,cG]
   ·rw[if_neg k2,if_neg k3,if_pos k4] at E;refine Ev.eY (de k1 _) λtt t2 G2 f2 k2'=>?_
    have m2:=dr f2;simp only[Y.bind_assoc] at E;rw[Y.aI f2] at E
    try simp -implicitDefEqProofs only[sS,Nat.reduceAdd,cG]
    refine Ev.is (n5 _) ?_;refine Ev.eY (ih fy (by omega) k2' (by omega) (qe _)) λz t3 G3 f3 k3'=>?_
    have m3:=dt f3;rw[Y.aI f3] at E
    try simp -implicitDefEqProofs only[sS,Nat.reduceAdd,cG]
    exact TF k3' (by omega) E
   ·rw[if_neg k2,if_neg k3,if_neg k4] at E;exact TF k1 m1 E
  ·rw[Bv (.inr h2)] at E;exact Ev.ret (.inr ⟨by simp,rfl,i,s,sx,_,_,_,_,_,_,_,_,_,_,rfl,hj,E⟩)
 ·rintro e vs Hx ⟨rfl,i,s,sx,x4,x5,aX,bJ,x9,dL,cZ,dY,aD,gQ,hv,hj,E⟩;simp only at hv hj;subst hv;simp -implicitDefEqProofs only[LK,yo,sS,Nat.reduceAdd,w4 (j:=4) (by omega)]
  refine Ev.unX (C3 hj _ _) λv u s4 H4 e4 jc=>?_
  try simp -implicitDefEqProofs only[sS,Nat.reduceAdd]
  refine Ev.ret (oO.of jc ?_);rw[E];rw[cG] at e4;simp only[Y.al,bo,bK,bO,cS,cT,ne_eq,not_true_eq_false,not_false_eq_true,if_true,if_false,Bool.not_true,Bool.not_false,true_and,and_true,false_and,and_false,true_or,or_true,false_or,or_false,Bool.false_eq_true,decide_true,decide_false,e4]
end
section
variable {G:ae} {H H':aa} {o o':aj} {p m c:Nat} {K:aa→aj→Prop} {t:Int} {x:Value} {l:PL}
def KO (K:aa→aj→Prop)(t:Int)(x:Value)(l:PL):aa→aj→Prop:=λH o=>K H o∧gZ H o t x l
structure oS (t:Int) (p:Nat):Prop where
 ne:t≠p
 n0:t≠ -50
 n1:t≠ -51
theorem gZ.fr {H H':aa}{o o':aj}{q:Int}{x:Value}{l:PL}{ps:List Int}(h:gZ H o q x l)(f:Fr H o H' o' ps)(hp:q ∉ ps):gZ H' o' q x l:=by
 rcases h with h|⟨i,cap,rest,ty,h1,h2,h3,h4⟩
 ·exact .inl h
 ·exact .inr ⟨i,cap,rest,ty,h1,by rw[f.same i (ar h2) (by rw[h4];exact hp)];exact h2,h3,by rw[f.own i (ar h2)];exact h4⟩
theorem bL.ko (ht:oS t p)(h:bL [(p:Int),t] K):bL [(p:Int)] (KO K t x l):=λH o H' o' a f=>⟨h H o H' o' a.1 (f.wk (by simp)),gZ.fr a.2 f (by simpa using ht.ne)⟩
section
variable {α:Type} {k:Nat→Value→aa→Option α} {Q:α→Prop} {a b:Int} {T ty:TypeId} {C:Nat→ae} {f:Nat} {args:List Value}
end
theorem zx (a b:Int):aE Tryz.prog 45 [(0,cv a),(1,cv b)]=some (.agg #[cv a,cv b]):=by kernel_rfl
theorem Hf (a b:Int)(H:aa):ay Tryz.prog 31 1 [(0,.agg #[cv a,cv b])] H=some (.slice (some ⟨H.length,0,none⟩) 1 1,H.new ⟨[cv a,cv b],45,2,false⟩):=by kernel_rfl
end
section
open Go.Proofs.YtgfgglponbmgmaaGreatA
variable {G:ae} {H H':aa} {o o':aj} {p c:Nat} {K:aa→aj→Prop} {t:Int} {x:Value} {l:PL} {st No s1:Y.St} {α β:Type}
abbrev GX (K:aa→aj→Prop)(t:Int)(c p:Nat)(st:Y.St)(tr:Y.Tr PL):Value→aa→Prop:=λv H'=>JX (KO K t v (Y.ah tr st).1) p (Y.ah tr st).2 H'∧(Y.ah tr st).1.length+(Y.ah tr st).2.left≤c
section
variable {k:Nat→Value→aa→Option α} {Q:α→Prop} {a b:Int} {T ty:TypeId} {C:Nat→ae} {f:Nat} {args:List Value}
theorem Ev.abp (hK:bL [(p:Int),t] K)(ht:oS t p)(h:JX (KO K t x l) p st H)(hb:l.length+1≤4294967296)(hk: ∀x' H',JX (KO K t x' (l++[(a,b)])) p st H'→Ev (λn=>k n x' H') Q):
  Ev (λn=>af (dj T 2 16 x (.slice (some ⟨H.length,0,none⟩) 1 1) (H.new ⟨[cv a,cv b],ty,2,false⟩)) (k n)) Q:=by
 obtain⟨hJ,o,hr,DN,hs⟩:=h;have f1:Fr H o (H.new ⟨[cv a,cv b],ty,2,false⟩) (o.up H.length (-9)) [t]:=(Fr.refl H o [t]).new _ _;have Ze:Fr H o (H.new ⟨[cv a,cv b],ty,2,false⟩) (o.up H.length (-9)) []:=(Fr.refl H o []).new _ _;obtain⟨x',H2,o2,e,s2,f2,_⟩:=gZ.app (y:=.slice (some ⟨H.length,0,none⟩) 1 1) (m:=[(a,b)]) T (gZ.fr hs Ze (by simp)) (Src.one (aK)) (by simpa using hb)
 rw[e];have f3:=f1.tr f2;refine hk x' H2 ⟨bL.ko ht hK,o2,hr.fr f3 ?_ ?_ ?_,hK _ _ _ _ DN (f3.wk (by simp)),s2⟩
 ·simp;exact λe=>ht.ne e.symm
 ·simp;exact λe=>ht.n0 e.symm
 ·simp;exact λe=>ht.n1 e.symm
theorem Ev.abq {tr:Y.Tr PL}(h:aF C f args H (GX K t c p st tr))(hk: ∀x l s1 H',Y.ah tr st=(l,s1)→JX (KO K t x l) p s1 H'→l.length+s1.left≤c→Ev (λn=>k n x H') Q):Ev (λn=>af (C n f args H) (k n)) Q:=
 Ev.call h λv H' hq=>hk v _ _ H' rfl hq.1 hq.2
end
theorem oT {n d fr to i r:Int}{l:PL}{f:Nat}{s:Y.St}(h:s.off=true∨¬i<d∨¬r<to):Y.ah (Y.db f n d fr to i r l) s=(l,s):=by
 cases f with
 |zero=>unfold Y.db;rfl
 |succ f=>
  unfold Y.db;by_cases h1:i<d
  ·rw[if_neg (by omega)]
   by_cases h2:r<to
   ·rw[if_neg (by omega)]
    have h3:s.off=true:=by
     rcases h with h|h|h
     ·exact h
     ·exact absurd h1 h
     ·exact absurd h2 h
    simp only[Y.al,bo,bK,bO,cS,cT,ne_eq,not_true_eq_false,not_false_eq_true,if_true,if_false,Bool.not_true,Bool.not_false,true_and,and_true,false_and,and_false,true_or,or_true,false_or,or_false,Bool.false_eq_true,decide_true,decide_false,h3]
   ·rw[if_pos h2];rfl
  ·rw[if_pos h1];rfl
theorem Hg {n d fr to i lr:Int}{out:PL}{f:Nat}{s:Y.St}(h:s.off=false)(h1:i<d)(h2:lr<to):Y.ah (Y.db (f+1) n d fr to i lr out) s=Y.ah (Y.sw (Y.dp n d i) >>= λw=>
  if Y.kd w=2 then
   (if lr≥fr then Y.rd (Y.aw w) >>= λk=>Y.rd (Y.aw w+1) >>= λv=>Y.db f n d fr to (i+1) (Y.wr (lr+1)) (out++[(k,v)])
   else Y.db f n d fr to (i+1) (Y.wr (lr+1)) out)
  else if Y.kd w=3∨Y.kd w=4 then
   (if Y.kd w=4 then(Y.rd (Y.aw w) >>= λt=>pure (Y.aw t)) else pure (Y.aw w)) >>= λa=>Y.rd (a+4) >>= λz=>
   (if Y.wr (lr+Y.wr (z-1))>fr then Y.gO f a (Y.wr (fr-lr)) (Y.wr (to-lr)) out else pure out) >>= λo=>
   Y.db f n d fr to (i+1) (Y.wr (lr+Y.wr (z-1))) o
  else Y.db f n d fr to (i+1) lr out) s:=by
 conv=>lhs;unfold Y.db
 rw[if_neg (by omega),if_neg (by omega)]
 simp only[Y.al,bo,bK,bO,cS,cT,ne_eq,not_true_eq_false,not_false_eq_true,if_true,if_false,Bool.not_true,Bool.not_false,true_and,and_true,false_and,and_false,true_or,or_true,false_or,or_false,Bool.false_eq_true,decide_true,decide_false,h]
theorem MI (hK:bL [(p:Int),t] K)(ht:oS t p)(hc:c≤2147483648){a b d dd:Int}{f S:Nat}(hS:S≤1048577){T:PL×Y.St}(ih: ∀f',f'<f→∀{x:Value} {l:PL} {st:Y.St} {H:aa},JX (KO K t x l) p st H→st.left≤f'→l.length+st.left≤c→∀{a:Int},(-9223372036854775808≤a∧a≤65536)→∀b d,aF (run G) 122 [pv p,cv a,cv b,cv d,x] H (GX K t c p st (Y.gO (f'+1) a b d l)))(k:Nat)(v0:List Value)(Hx:aa)(hi:(λ(k:Nat) (vs:List Value) (Hx:aa)=>∃(i r:Int) (x:Value) (l:PL) (sx:Y.St) (fx:Nat) (aD cq aM cZ cL dU aR aX bf hZ fN aZ fC:Value),vs=[pv p,cv a,cv b,cv d,x,aD,cv i,cv dd,cv r,cq,aM,cZ,cL,dU,aR,aX,bf,hZ,fN,aZ,fC]∧JX (KO K t x l) p sx Hx∧k=sx.left∧fx≤f∧(sx.left+1≤fx∨sx.off=true)∧0≤i∧i+sx.left≤S∧l.length+sx.left≤c∧T=Y.ah (Y.db fx a dd b d i r l) sx) k v0 Hx):
  Ev (λn=>vG (run G n) n v0 Hx) λr=>(r.1= .normal∧∃k',k'<k∧(λ(k:Nat) (vs:List Value) (Hx:aa)=>∃(i r:Int) (x:Value) (l:PL) (sx:Y.St) (fx:Nat) (aD cq aM cZ cL dU aR aX bf hZ fN aZ fC:Value),vs=[pv p,cv a,cv b,cv d,x,aD,cv i,cv dd,cv r,cq,aM,cZ,cL,dU,aR,aX,bf,hZ,fN,aZ,fC]∧JX (KO K t x l) p sx Hx∧k=sx.left∧fx≤f∧(sx.left+1≤fx∨sx.off=true)∧0≤i∧i+sx.left≤S∧l.length+sx.left≤c∧T=Y.ah (Y.db fx a dd b d i r l) sx) k' r.2.1 r.2.2)∨(r.1≠ .normal∧(λ(r:bG×List Value×aa)=>r.1= .exit 0∧∃(x i r':Value) (l:PL) (sx:Y.St) (aD cq aM cZ cL dU aR aX bf hZ fN aZ fC:Value),r.2.1=[pv p,cv a,cv b,cv d,x,aD,i,cv dd,r',cq,aM,cZ,cL,dU,aR,aX,bf,hZ,fN,aZ,fC]∧JX (KO K t x l) p sx r.2.2∧l.length+sx.left≤c∧T=(l,sx)) r):=by
 obtain⟨i,r,x,l,sx,fx,aD,cq,aM,cZ,cL,dU,aR,aX,bf,hZ,fN,aZ,fC,rfl,hj,rfl,hfx,pU,hi0,hil,hl,E⟩:=hi;have wi:sx.off=false→IntKind.i64.wrap (i+1)=i+1:=λh=>gz (by have:=iM h;omega)
 simp -implicitDefEqProofs only[KZ,xK,sS,Nat.reduceAdd];refine Ev.lss (λh1=>?_) (λh1=>?_)<;>try simp -implicitDefEqProofs only[sS,Nat.reduceAdd]
 rotate_left
 ·rw[oT (.inr (.inl h1))] at E;exact Ev.ret (.inr ⟨by simp,rfl,x,_,_,l,sx,_,_,_,_,_,_,_,_,_,_,_,_,_,rfl,hj,hl,E⟩)
 refine Ev.lss (λh2=>?_) (λh2=>?_)<;>try simp -implicitDefEqProofs only[sS,Nat.reduceAdd]
 rotate_left
 ·rw[oT (.inr (.inr h2))] at E;exact Ev.ret (.inr ⟨by simp,rfl,x,_,_,l,sx,_,_,_,_,_,_,_,_,_,_,_,_,_,rfl,hj,hl,E⟩)
 refine Ev.n3 hj (λhq=>?_) (λhq=>?_)<;>try simp -implicitDefEqProofs only[sS,Nat.reduceAdd]
 ·rw[oT (.inl hq)] at E;exact Ev.ret (.inr ⟨by simp,rfl,x,_,_,l,sx,_,_,_,_,_,_,_,_,_,_,_,_,_,rfl,hj,hl,E⟩)
 have wi':=wi hq;have l4:=iM hq;have P2:sx.left+1≤fx:=pU.resolve_right (by rw[hq];simp)
 obtain⟨fy,rfl⟩: ∃fy,fx=fy+2:=⟨fx-2,by omega⟩
 rw[Hg hq h1 h2] at E;have L2: ∀{x:Value} {l:PL} {sy:Y.St} {Hy:aa} {r:Int} {aD cq aM cZ cL dU aR aX bf hZ fN aZ fC:Value},JX (KO K t x l) p sy Hy→sy.left≤sx.left-1→l.length+sy.left≤c→T=Y.ah (Y.db (fy+1) a dd b d (i+1) r l) sy→
   Ev (λn=>pe (run G n) n [pv p,cv a,cv b,cv d,x,aD,cv i,cv dd,cv r,cq,aM,cZ,cL,dU,aR,aX,bf,hZ,fN,aZ,fC] Hy) λr=>(r.1= .normal∧∃k',k'<sx.left∧(λ(k:Nat) (vs:List Value) (Hx:aa)=>∃(i r:Int) (x:Value) (l:PL) (sx:Y.St) (fx:Nat) (aD cq aM cZ cL dU aR aX bf hZ fN aZ fC:Value),vs=[pv p,cv a,cv b,cv d,x,aD,cv i,cv dd,cv r,cq,aM,cZ,cL,dU,aR,aX,bf,hZ,fN,aZ,fC]∧JX (KO K t x l) p sx Hx∧k=sx.left∧fx≤f∧(sx.left+1≤fx∨sx.off=true)∧0≤i∧i+sx.left≤S∧l.length+sx.left≤c∧T=Y.ah (Y.db fx a dd b d i r l) sx) k' r.2.1 r.2.2)∨(r.1≠ .normal∧(λ(r:bG×List Value×aa)=>r.1= .exit 0∧∃(x i r':Value) (l:PL) (sx:Y.St) (aD cq aM cZ cL dU aR aX bf hZ fN aZ fC:Value),r.2.1=[pv p,cv a,cv b,cv d,x,aD,i,cv dd,r',cq,aM,cZ,cL,dU,aR,aX,bf,hZ,fN,aZ,fC]∧JX (KO K t x l) p sx r.2.2∧l.length+sx.left≤c∧T=(l,sx)) r):=by
  intro x l sy Hy r aD cq aM cZ cL dU aR aX bf hZ fN aZ fC hy ly hly Ey;simp -implicitDefEqProofs only[KX,xI,sS,Nat.reduceAdd,wi'];exact Ev.ret (.inl ⟨rfl,sy.left,by omega,i+1,r,x,l,sy,fy+1,_,_,_,_,_,_,_,_,_,_,_,_,_,rfl,hy,rfl,by omega,.inl (by omega),by omega,by omega,hly,Ey⟩)
 refine Ev.is (kQ _ _ _) ?_;refine Ev.eY (PT hj _) λw t1 G1 f1 k1=>?_
 have m1:=MH f1;rw[Y.aI f1] at E
 try simp -implicitDefEqProofs only[sS,Nat.reduceAdd]
 refine Ev.is (n5 _) ?_
 try simp -implicitDefEqProofs only[sS,Nat.reduceAdd]
 refine Ev.is (js _) ?_
 try simp -implicitDefEqProofs only[sS,Nat.reduceAdd]
 refine Ev.eql (λk2=>?_) (λk2=>?_)<;>try simp -implicitDefEqProofs only[sS,Nat.reduceAdd]
 ·rw[if_pos k2] at E;refine Ev.geq (λh3=>?_) (λh3=>?_)<;>try simp -implicitDefEqProofs only[sS,Nat.reduceAdd]
  ·rw[if_pos h3] at E;refine Ev.eY (de k1 _) λkk t2 G2 f2 k2'=>?_
   have m2:=dr f2;rw[Y.aI f2] at E
   try simp -implicitDefEqProofs only[sS,Nat.reduceAdd,Np _ (j:=1) (by omega)]
   refine Ev.eY (de k2' _) λvv t3 G3 f3 k3'=>?_
   have m3:=dr f3;rw[Y.aI f3] at E
   try simp -implicitDefEqProofs only[sS,Nat.reduceAdd]
   simp -implicitDefEqProofs only[zx,Hf,sS,Nat.reduceAdd];refine Ev.abp hK ht k3' (by omega) λx' H' zM=>?_
   try simp -implicitDefEqProofs only[sS,Nat.reduceAdd]
   simp -implicitDefEqProofs only[A8,rY,sS,Nat.reduceAdd,cG];exact L2 zM (by omega) (by simp;omega) E
  ·rw[if_neg h3] at E;simp -implicitDefEqProofs only[A8,rY,sS,Nat.reduceAdd,cG];exact L2 k1 (by omega) (by omega) E
 rw[if_neg k2] at E;have L5: ∀{y:Int} {s4:Y.St} {H4:aa} {aD cq aM cZ cL dU aX bf hZ fN aZ fC:Value},(-9223372036854775808≤y∧y≤65536)→JX (KO K t x l) p s4 H4→s4.left≤t1.left→T=Y.ah (Y.rd (y+4) >>= λz=>
   (if Y.wr (r+Y.wr (z-1))>b then Y.gO (fy+1) y (Y.wr (b-r)) (Y.wr (d-r)) l else pure l) >>= λo=>
   Y.db (fy+1) a dd b d (i+1) (Y.wr (r+Y.wr (z-1))) o) s4→
   Ev (λn=>r7 (run G n) n [pv p,cv a,cv b,cv d,x,aD,cv i,cv dd,cv r,cq,aM,cZ,cL,dU,cv y,aX,bf,hZ,fN,aZ,fC] H4) λr=>(r.1= .normal∧∃k',k'<sx.left∧(λ(k:Nat) (vs:List Value) (Hx:aa)=>∃(i r:Int) (x:Value) (l:PL) (sx:Y.St) (fx:Nat) (aD cq aM cZ cL dU aR aX bf hZ fN aZ fC:Value),vs=[pv p,cv a,cv b,cv d,x,aD,cv i,cv dd,cv r,cq,aM,cZ,cL,dU,aR,aX,bf,hZ,fN,aZ,fC]∧JX (KO K t x l) p sx Hx∧k=sx.left∧fx≤f∧(sx.left+1≤fx∨sx.off=true)∧0≤i∧i+sx.left≤S∧l.length+sx.left≤c∧T=Y.ah (Y.db fx a dd b d i r l) sx) k' r.2.1 r.2.2)∨(r.1≠ .normal∧(λ(r:bG×List Value×aa)=>r.1= .exit 0∧∃(x i r':Value) (l:PL) (sx:Y.St) (aD cq aM cZ cL dU aR aX bf hZ fN aZ fC:Value),r.2.1=[pv p,cv a,cv b,cv d,x,aD,i,cv dd,r',cq,aM,cZ,cL,dU,aR,aX,bf,hZ,fN,aZ,fC]∧JX (KO K t x l) p sx r.2.2∧l.length+sx.left≤c∧T=(l,sx)) r):=by
  intro y s4 H4 aD cq aM cZ cL dU aX bf hZ fN aZ fC hy jc l4' E;have wy:IntKind.i64.wrap (y+4)=y+4:=gz (by omega)
  simp -implicitDefEqProofs only[KY,xJ,sS,Nat.reduceAdd,wy];refine Ev.eY (de jc _) λz s5 H5 e5 lJ=>?_
  have m5:=dr e5;rw[Y.aI e5] at E
  try simp -implicitDefEqProofs only[sS,Nat.reduceAdd,cG]
  refine Ev.gtr (λh6=>?_) (λh6=>?_)<;>try simp -implicitDefEqProofs only[sS,Nat.reduceAdd,cG]
  ·rw[if_pos h6] at E;refine Ev.abq (ih fy (by omega) lJ (by omega) (by omega) hy _ _) λx' l' s6 H6 e6 n9 VD=>?_
   have m6:=dt e6;rw[Y.aI e6] at E
   try simp -implicitDefEqProofs only[sS,Nat.reduceAdd,cG]
   simp -implicitDefEqProofs only[A9,rZ,sS,Nat.reduceAdd,cG];exact L2 n9 (by omega) VD E
  ·rw[if_neg h6] at E;simp -implicitDefEqProofs only[A9,rZ,sS,Nat.reduceAdd,cG];exact L2 lJ (by omega) (by omega) E
 refine Ev.eql (λk3=>?_) (λk3=>?_)<;>try simp -implicitDefEqProofs only[sS,Nat.reduceAdd]
 ·rw[if_pos (.inl k3),if_neg (by omega),Y.bind_pure] at E
  simp -implicitDefEqProofs only[tR,oI,sS,Nat.reduceAdd];refine Ev.is (js _) ?_
  try simp -implicitDefEqProofs only[sS,Nat.reduceAdd]
  refine Ev.eql (λk4=>?_) (λk4=>?_)<;>try simp -implicitDefEqProofs only[sS,Nat.reduceAdd]
  ·omega
  ·exact L5 (qe _) k1 (by omega) E
 refine Ev.eql (λk4=>?_) (λk4=>?_)<;>try simp -implicitDefEqProofs only[sS,Nat.reduceAdd]
 ·rw[if_pos (.inr k4),if_pos k4] at E;simp only[Y.bind_assoc] at E;simp -implicitDefEqProofs only[tR,oI,sS,Nat.reduceAdd];refine Ev.is (js _) ?_
  try simp -implicitDefEqProofs only[sS,Nat.reduceAdd]
  refine Ev.eql (λk5=>?_) (λk5=>?_)<;>try simp -implicitDefEqProofs only[sS,Nat.reduceAdd]
  ·refine Ev.eY (de k1 _) λtt s4 H4 e4 jc=>?_
   have m4:=dr e4;rw[Y.aI e4,Y.bind_pure] at E
   try simp -implicitDefEqProofs only[sS,Nat.reduceAdd]
   refine Ev.is (n5 _) ?_
   try simp -implicitDefEqProofs only[sS,Nat.reduceAdd]
   exact L5 (qe _) jc (by omega) E
  ·exact absurd k4 k5
 ·rw[if_neg (by omega)] at E
  simp -implicitDefEqProofs only[tR,oI,sS,Nat.reduceAdd];exact L2 k1 (by omega) (by omega) E
theorem P3 (hK:bL [(p:Int),t] K)(ht:oS t p)(hc:c≤2147483648): ∀(f:Nat) {x:Value} {l:PL} {st:Y.St} {H:aa},JX (KO K t x l) p st H→st.left≤f→l.length+st.left≤c→∀{a:Int},(-9223372036854775808≤a∧a≤65536)→∀b d,aF (run G) 122 [pv p,cv a,cv b,cv d,x] H (GX K t c p st (Y.gO (f+1) a b d l)):=by
 intro f;induction f using Nat.strongRecOn with
 |ind f ih=>
 intro x l st H h hf hl a ha b d;refine Ev.up (t:=λn=>Xn (run G n) n (pv p) (cv a) (cv b) (cv d) x H) ?_ λn=>R7 ..
 simp -implicitDefEqProofs only[Xn,sS,Nat.reduceAdd];refine Ev.eY (de h a) λdd s1 H1 e1 fH=>?_
 have l1:=dr e1;have lst:=h.left;have hinv:s1.left+1≤f∨s1.off=true:=by
  by_cases ho:s1.off=true
  ·exact .inr ho
  ·have:1≤s1.left:=iM (by simpa using ho)
   exact .inl (by omega)
 have B:Y.ah (Y.gO (f+1) a b d l) st=Y.ah (Y.db f a dd b d 0 0 l) s1:=by
  conv=>lhs;unfold Y.gO
  simp only[Y.al,bo,bK,bO,cS,cT,ne_eq,not_true_eq_false,not_false_eq_true,if_true,if_false,Bool.not_true,Bool.not_false,true_and,and_true,false_and,and_false,true_or,or_true,false_or,or_false,Bool.false_eq_true,decide_true,decide_false,e1]
 generalize hT:Y.ah (Y.gO (f+1) a b d l) st=T at B
 try simp -implicitDefEqProofs only[sS,Nat.reduceAdd]
 refine Ev.loop (k:=s1.left) (λk vs Hx=>∃(i r:Int) (x:Value) (l:PL) (sx:Y.St) (fx:Nat) (aD cq aM cZ cL dU aR aX bf hZ fN aZ fC:Value),vs=[pv p,cv a,cv b,cv d,x,aD,cv i,cv dd,cv r,cq,aM,cZ,cL,dU,aR,aX,bf,hZ,fN,aZ,fC]∧JX (KO K t x l) p sx Hx∧k=sx.left∧fx≤f∧(sx.left+1≤fx∨sx.off=true)∧0≤i∧i+sx.left≤st.left∧l.length+sx.left≤c∧T=Y.ah (Y.db fx a dd b d i r l) sx) (λr=>r.1= .exit 0∧∃(x i r':Value) (l:PL) (sx:Y.St) (aD cq aM cZ cL dU aR aX bf hZ fN aZ fC:Value),r.2.1=[pv p,cv a,cv b,cv d,x,aD,i,cv dd,r',cq,aM,cZ,cL,dU,aR,aX,bf,hZ,fN,aZ,fC]∧JX (KO K t x l) p sx r.2.2∧l.length+sx.left≤c∧T=(l,sx)) ⟨0,0,x,l,s1,f,_,_,_,_,_,_,_,_,_,_,_,_,_,rfl,fH,rfl,Nat.le_refl _,hinv,by omega,by omega,by omega,B⟩ ?_ ?_
 ·intro k vs Hx hi;exact MI (S:=st.left) hK ht hc lst (λf' zV _ _ _ _ a1 a2 a3 _ a4 b d=>ih f' zV a1 a2 a3 a4 b d) k vs Hx hi
 ·rintro e vs H2 ⟨rfl,x',i',r',l',sx,aD,cq,aM,cZ,cL,dU,aR,aX,bf,hZ,fN,aZ,fC,hv,hj,hl',E⟩;simp only at hv hj;subst hv;simp -implicitDefEqProofs only[KV,xH,sS,Nat.reduceAdd];refine Ev.ret ?_;show JX _ _ _ _∧_
  rw[hT,E];exact⟨hj,hl'⟩
end
section
variable {G:ae} {H H':aa} {o o':aj} {p m c:Nat} {K:aa→aj→Prop} {t:Int} {x:Value} {l:PL}
theorem P4 {s:Value}{cs:List Int}(T ty:TypeId)(a:Int)(hs:oK H o t s cs)(hb:cs.length+1≤4294967296):
  ∃s' H2 o2,dj T 1 8 s (.slice (some ⟨H.length,0,none⟩) 1 1) (H.new ⟨[cv a],ty,1,false⟩)=some (s',H2)∧oK H2 o2 t s' (cs++[a])∧Fr H o H2 o2 [t]:=by
 have f1:Fr H o (H.new ⟨[cv a],ty,1,false⟩) (o.up H.length (-9)) [t]:=(Fr.refl H o [t]).new _ _;have Ze:Fr H o (H.new ⟨[cv a],ty,1,false⟩) (o.up H.length (-9)) []:=(Fr.refl H o []).new _ _;obtain⟨s',H2,o2,e,s2,f2,_⟩:=j9 (x:=.slice (some ⟨H.length,0,none⟩) 1 1) (l:=[a]) T (hs.fr Ze (by simp)) (.inr ⟨H.length,0,1,rfl,λ_=>⟨_,aK,rfl,by simp,by simp⟩⟩) (by simpa using hb)
 exact⟨s',H2,o2,e,s2,f1.tr f2⟩
structure C9 (B:aa) (b:aj) (p:Nat) (t u:Int) (x:Value) (lx:List Int) (y:Value) (ly:List Int) (H:aa) (o:aj):Prop where
 fr:Fr B b H o [(p:Int)]
 q:oK H o t x lx
 c:oK H o u y ly
structure Two (B:aa) (b:aj) (p:Nat) (t u:Int):Prop where
 Rh:oS t p
 at2:oS u p
 ne:t≠u
 ft: ∀i,i<B.length→b i≠t
 fu: ∀i,i<B.length→b i≠u
theorem P5 (B:aa)(b:aj)(p:Nat): ∃t u,Two B b p t u:=by
 obtain⟨t,h1,h2⟩:=gH b B.length;exact⟨t,t-1,⟨by omega,by omega,by omega⟩,⟨by omega,by omega,by omega⟩,by omega,λi hi=>by have:=h2 i hi;omega,λi hi=>by have:=h2 i hi;omega⟩
section
variable {B:aa} {b:aj} {u:Int} {y:Value} {lx ly:List Int}
theorem C9.fe (h2:Two B b p t u):bL [(p:Int)] (C9 B b p t u x lx y ly):=λH o H' o' h f=>⟨h.fr.tr f,h.q.fr f (by simpa using h2.Rh.ne),h.c.fr f (by simpa using h2.at2.ne)⟩
variable {α:Type} {k:Nat→Value→aa→Option α} {Q:α→Prop} {a:Int} {T ty:TypeId}
end
theorem Da (n a:Int):di n (some (cv a))=some a:=rfl
end
end Go.Proofs.YtgfgglponbmgmaaGreat.Fun
end
