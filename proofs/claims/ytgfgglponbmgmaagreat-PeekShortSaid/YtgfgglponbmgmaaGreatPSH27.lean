/- Texts of the proof of peekShort_holds, put together by a small program of ours (names shortened, spaces taken out). No condition beyond the given statement. -/
import Derived.Test.YtgfgglponbmgmaaGreatPSH11
import Derived.Test.YtgfgglponbmgmaaGreatPSH17
import Derived.Test.YtgfgglponbmgmaaGreatPSH14
import Derived.Test.YtgfgglponbmgmaaGreatPSH15
import Derived.Test.YtgfgglponbmgmaaGreatPSH26
import Derived.Test.YtgfgglponbmgmaaGreatPSH16
import Derived.Test.YtgfgglponbmgmaaGreatPSH12
import Derived.Test.YtgfgglponbmgmaaGreatPSH13
import Derived.Test.YtgfgglponbmgmaaGreatPSH19
import Derived.Test.YtgfgglponbmgmaaGreatPSH9
import Derived.Test.YtgfgglponbmgmaaGreatPSH20
set_option linter.unusedVariables false
set_option linter.unusedSimpArgs false
set_option linter.unnecessarySimpa false
noncomputable section
section
namespace Go.Proofs.YtgfgglponbmgmaaGreat.Fun
open Go Go.RowKit Go.Proofs.YtgfgglponbmgmaaGreatA.Am
set_option maxRecDepth 10000
section
open Go.Proofs.YtgfgglponbmgmaaGreatA
variable {G:ae} {H H':aa} {o o':aj} {p c:Nat} {K:aa→aj→Prop} {t:Int} {x:Value} {l:PL} {st LV s1:Y.St} {α β:Type}
theorem JX.ue (h:JX K p st H)(f: ∀o,∃o',Fr H o H' o' []):JX K p st H':=by
 obtain⟨hK,o,hr,hk⟩:=h;obtain⟨o',f⟩:=f o;exact⟨hK,o',hr.fr f (by simp) (by simp) (by simp),hK _ _ _ _ hk (f.wk (by simp))⟩
theorem JX.sl (h:JX (λH o=>K H o∧gN H o t x l) p st H)(hK:bJ [(p:Int)] K):JX K p st H:=h.mono hK λo a=>a.1
theorem aag (h:JX K p st H){d:Int}(h1:1≤d∧d≤128){T:TypeId}: ∃s1 s2 H1 H2,UM T 1 8 [cv 0] (cv (d-1)) (cv (d-1)) (H.cB 1)=some (s1,H1)∧Jd H.length (msB T 1 8 [cv 0] (cv d) (cv d)) H1=some (s2,H2)∧JX K p st H2∧eG H2 s1 (List.replicate (d-1).toNat 0)∧eG H2 s2 (List.replicate d.toNat 0):=by
 obtain⟨e,he⟩: ∃e:Nat,d=e+1:=⟨(d-1).toNat,by omega⟩
 subst he;have e1:(e:Int)+1-1=e:=by omega
 have e2:((e:Int)+1).toNat=e+1:=by omega
 have hb:msB T 1 8 [cv 0] (cv ((e:Int)+1)) (cv ((e:Int)+1))=some (λi=>.slice (some ⟨i,0,none⟩) (e+1) (e+1),⟨bK [cv 0] (e+1),T,1,false⟩):=by
  unfold msB UM;simp only[e2];rw[if_pos (by omega)];rfl
 have hlen:(H.cB 1).length=H.length+1:=AI 1;have hole:((H.cB 1).new ⟨bK [cv 0] e,T,1,false⟩)[H.length]? =some .hole:=by
  unfold aa.new;rw[List.getElem?_append_left (by omega)];exact AH
 refine⟨.slice (some ⟨H.length+1,0,none⟩) e e,.slice (some ⟨H.length,0,none⟩) (e+1) (e+1),(H.cB 1).new ⟨bK [cv 0] e,T,1,false⟩,((H.cB 1).new ⟨bK [cv 0] e,T,1,false⟩).set H.length (.y7 ⟨bK [cv 0] (e+1),T,1,false⟩),?_,?_,?_,?_,?_⟩
 ·unfold UM;simp only[e1,hlen,Int.toNat_natCast];rw[if_pos (by omega)]
 ·rw[hb];exact GC hole
 ·refine h.ue λo=>⟨(o.up H.length (-9)).up (H.length+1) (-9),?_⟩
  refine⟨λi hi _=>?_,λi hi=>?_,?_⟩
  ·rw[jd (by omega)]
   unfold aa.new;rw[List.getElem?_append_left (by omega),FM hi]
  ·rw[dL (by omega),dL (by omega)]
  ·simp only[List.length_set,cA,hlen];omega
 ·refine .inr ⟨H.length+1,0,e,by simp,λ_=>⟨⟨bK [cv 0] e,T,1,false⟩,?_,rfl,?_,?_⟩⟩
  ·have g:=aL (H:=H.cB 1) (c:=⟨bK [cv 0] e,T,1,false⟩);rw[hlen] at g;rw[dZ (jd (by omega))];exact g
  ·simp[vI]
  ·simp[vI,e1]
 ·refine .inr ⟨H.length,0,e+1,by simp[e2],λ_=>⟨⟨bK [cv 0] (e+1),T,1,false⟩,?_,rfl,?_,?_⟩⟩
  ·exact r8 (by rw[cA,hlen];omega)
  ·simp[vI,e2]
  ·simp[vI,e2]
theorem Ev.TK {k:Nat→Value→aa→Option α}{Q:α→Prop}(h:JX K p st H){f:Nat}(hf:st.left≤f){a:Int}(ha: -9223372036854775808≤a∧a≤65536){b d:Int}(hk: ∀t y l s1 H',Y.ah (Y.gJ (f+1) a b d []) st=(l,s1)→t≠(p:Int)→JX (λH o=>K H o∧gN H o t y l) p s1 H'→l.length≤1048577→Ev (λn=>k n y H') Q):
  Ev (λn=>af (run G n 122 [pv p,cv a,cv b,cv d,.slice none 0 0] H) (k n)) Q:=by
 have Yv:=h.left;obtain⟨hK,o,hr,hk0⟩:=h;obtain⟨t,PN,Cw⟩:=gC o H.length;have ht:oS t p:=⟨by omega,by omega,by omega⟩
 have hB:bJ [(p:Int),t] λH' o'=>Fr H o H' o' [t,(p:Int)]:=bJ.base (by simp)
 refine Ev.aab (Ox (c:=1048577) hB ht (by omega) f (x:=.slice none 0 0) (l:=[]) ⟨bJ.ko ht hB,o,hr,Fr.refl _ _ _,.inl ⟨rfl,rfl⟩⟩ hf (by simpa using Yv) ha b d) ?_
 rintro y l s1 H' e ⟨_,o',Ui,kO,hs⟩ hl;exact hk t y l s1 H' e ht.ne ⟨hK.and (bJ.kq (by simpa using ht.ne)),o',Ui,hK _ _ _ _ hk0 (iD kO λi hi=>by have:=Cw i hi;omega),hs.r⟩ (by omega)
theorem aah (h:JX K p st H){f:Nat}(hf:st.left≤f){a:Int}(ha: -9223372036854775808≤a∧a≤65536)(n:Int):aE (run G) 151 [pv p,cv a,cv n] H (iw K p st (Y.Cv (f+1) a n)):=by
 refine Ev.up (t:=λk=>WG (run G k) k (pv p) (cv a) (cv n) H) ?_ λk=>Ru ..
 simp -implicitDefEqProofs only[WG,sS,Nat.reduceAdd];have hK:=h.1;have J0: ∀{y:Value} {l:PL} {t:Int} {s1:Y.St} {H1:aa} (x6 x7 aI x8 x9 aC cq cw:Value),t≠(p:Int)→JX (λH o=>K H o∧gN H o t y l) p s1 H1→l.length≤1048577→Y.ah (Y.Cv (f+1) a n) st=Y.ah (if s1.off then pure (0,false) else Y.iu (l.length+1) l) s1→Ev (λk=>vy (run G k) k [pv p,cv a,cv n,x6,x7,aI,x8,x9,aC,cq,cw,y] H1) λr=>iw K p st (Y.Cv (f+1) a n) r.1 r.2:=by
  intro y l t s1 H1 x6 x7 aI x8 x9 aC cq cw ht hj hl E;simp -implicitDefEqProofs only[KF,yl,sS,Nat.reduceAdd];have y9:=hj.sl hK;refine Ev.nW hj (λhq=>?_) (λhq=>?_)<;>try simp -implicitDefEqProofs only[sS,Nat.reduceAdd]
  ·exact Ev.ret (iw.of y9 (by rw[E,if_pos hq];rfl))
  ·refine Ev.D7 (OC _ rfl (by omega) hj ht (λH o a=>a.2) (Nat.le_refl _)) λz zb s2 Hz ez LY=>?_
   have yT:=LY.sl hK
   try simp -implicitDefEqProofs only[sS,Nat.reduceAdd]
   exact Ev.ret (iw.of yT (by rw[E,if_neg (by simp[hq]),ez]))
 refine Ev.geq (λhq=>?_) (λhq=>?_)<;>try simp -implicitDefEqProofs only[sS,Nat.reduceAdd]
 ·refine Ev.call (jS _) ?_;rintro v PI ⟨rfl,rfl⟩;have hd:=pz n;have hx:1≤(if(1:Int)>bo n then 1 else bo n)∧(if(1:Int)>bo n then 1 else bo n)≤128:=by split<;>omega
  simp -implicitDefEqProofs only[To,sS,Nat.reduceAdd];obtain⟨d,Yx⟩: ∃d,d=(if(1:Int)>bo n then 1 else bo n):=⟨_,rfl⟩
  have hd3:max (Y.bo n) 1=d:=by rw[pP,Yx];split<;>omega
  rw[←Yx] at hx ⊢;obtain⟨s1,s2,H2,H3,g1,g2,g3,g4,g5⟩:=aag h hx (T:=2);have hw:IntKind.i64.wrap (d-1)=d-1:=fL (by omega)
  simp -implicitDefEqProofs only[hw,g1,Nat.add_zero,g2,sS,Nat.reduceAdd];refine Ev.RP (nA g3 _ g4 g5 (by simp;omega)) λw Hz hjw=>?_
  refine Ev.si (nu hjw) λz s1 Hz ez hj=>?_
  try simp -implicitDefEqProofs only[sS,Nat.reduceAdd]
  refine Ev.is (nY _ _) ?_
  try simp -implicitDefEqProofs only[sS,Nat.reduceAdd]
  refine Ev.ret (iw.of hj ?_);unfold Y.Cv;rw[if_pos hq];simp only[Y.ak,bk,bH,bL,cR,cS,ne_eq,not_true_eq_false,not_false_eq_true,if_true,if_false,Bool.not_true,Bool.not_false,true_and,and_true,false_and,and_false,true_or,or_true,false_or,or_false,Bool.false_eq_true,decide_true,decide_false,hd3,ez]
 ·refine Ev.eql (λkt=>?_) (λkt=>?_)<;>try simp -implicitDefEqProofs only[sS,Nat.reduceAdd]
  ·refine Ev.TK h hf ha λt y l s1 H1 e ht hj hl=>?_
   try simp -implicitDefEqProofs only[sS,Nat.reduceAdd]
   refine J0 _ _ _ _ _ _ _ _ ht hj hl ?_;unfold Y.Cv;rw[if_neg hq,if_pos kt];simp only[Y.ak,bk,bH,bL,cR,cS,ne_eq,not_true_eq_false,not_false_eq_true,if_true,if_false,Bool.not_true,Bool.not_false,true_and,and_true,false_and,and_false,true_or,or_true,false_or,or_false,Bool.false_eq_true,decide_true,decide_false,e];rfl
  ·refine J0 (t:= -9) (l:=[]) (s1:=st) _ _ _ _ _ _ _ _ (by omega) ⟨hK.and (bJ.kq (by simp)),?_⟩ (by simp) ?_
   ·obtain⟨_,o,hr,hk⟩:=h;exact⟨o,hr,hk,.nil⟩
   ·unfold Y.Cv;rw[if_neg hq,if_neg kt];simp only[Y.ak,bk,bH,bL,cR,cS,ne_eq,not_true_eq_false,not_false_eq_true,if_true,if_false,Bool.not_true,Bool.not_false,true_and,and_true,false_and,and_false,true_or,or_true,false_or,or_false,Bool.false_eq_true,decide_true,decide_false];rfl
theorem Lf (n i:Int):0≤gI n i∧0≤b9 n i∧gI n i+b9 n i≤16384:=by
 by_cases hn:2≤n∧n≤16384
 ·by_cases hi:0≤i∧i<bo n
  ·have e:gI n i=cD n i.toNat:=by unfold gI;rw[if_neg (by omega)]
   have a1:=yH n i.toNat;have a2:=vE hn (i:=i.toNat) (by omega)
   have a3:=jU hn hi;have a4:((i.toNat:Nat):Int)=i:=by omega
   rw[a4] at a2;rw[e];omega
  ·have e1:gI n i=0:=by unfold gI;rw[if_pos (by omega)]
   have e2:b9 n i=0:=by unfold b9;rw[if_pos (by omega)]
   omega
 ·have d0:=nr (n:=n) (by omega)
  have e1:gI n i=0:=by unfold gI;rw[if_pos (by omega)]
  have e2:b9 n i=0:=by unfold b9;rw[if_pos (by omega)]
  omega
theorem OE (h:JX K p st H){f:Nat}(hf:st.left≤f){a:Int}(ha: -9223372036854775808≤a∧a≤65536)(n x d i:Int):aE (run G) 165 [pv p,cv a,cv n,cv x,cv d,cv i] H (jH K p st (Y.oN (f+1) a n x d i)):=by
 refine Ev.up (t:=λk=>V2 (run G k) k (pv p) (cv a) (cv n) (cv x) (cv d) (cv i) H) ?_ λk=>QY ..
 simp -implicitDefEqProofs only[V2,sS,Nat.reduceAdd];have hK:=h.1;refine Ev.call (Oc _ _) ?_;rintro v H1 ⟨rfl,rfl⟩
 try simp -implicitDefEqProofs only[sS,Nat.reduceAdd]
 refine Ev.call (yE _ _) ?_;rintro v H1 ⟨rfl,rfl⟩;have fs:=Lf n i;simp -implicitDefEqProofs only[sS,Nat.reduceAdd,fL (x:=gI n i+b9 n i) (by omega)]
 refine Ev.TK h hf ha λt y l s1 H1 e ht hj hl=>?_
 try simp -implicitDefEqProofs only[sS,Nat.reduceAdd]
 have E0:Y.ah (Y.oN (f+1) a n x d i) st=Y.ah (if s1.off then pure true else Y.iu (l.length+1) l >>= λwo=>if wo.2=false then pure false else Y.KZ l x d i wo.1) s1:=by
  unfold Y.oN;simp only[Y.ak,bk,bH,bL,cR,cS,ne_eq,not_true_eq_false,not_false_eq_true,if_true,if_false,Bool.not_true,Bool.not_false,true_and,and_true,false_and,and_false,true_or,or_true,false_or,or_false,Bool.false_eq_true,decide_true,decide_false,TH,sr,e];rfl
 refine Ev.nW hj (λhq=>?_) (λhq=>?_)<;>try simp -implicitDefEqProofs only[sS,Nat.reduceAdd]
 ·exact Ev.ret (jH.of (hj.sl hK) (by rw[E0,if_pos hq];rfl))
 rw[if_neg (by simp[hq])] at E0
 refine Ev.D7 (OC _ rfl (by omega) hj ht (λH o a=>a.2) (Nat.le_refl _)) λz zb s2 Hz ez LY=>?_
 rw[Y.aJ ez] at E0;simp -implicitDefEqProofs only[sS,Nat.reduceAdd];have yT:=LY.sl hK;have J0: ∀{s3:Y.St} {H1:aa} (x6 aI bR aM aW cw dv:Value),JX K p s3 H1→Y.ah (Y.oN (f+1) a n x d i) st=Y.ah (Y.cs (Y.dh x d i) 0 z >>= λ_=>pure true) s3→Ev (λk=>vl (run G k) k [pv p,cv a,cv n,cv x,cv d,cv i,x6,aI,bR,aM,aW,cw,dv,cv z] H1) λr=>jH K p st (Y.oN (f+1) a n x d i) r.1 r.2:=by
  intro s3 H1 x6 aI bR aM aW cw dv hj E;simp -implicitDefEqProofs only[Ke,xK,sS,Nat.reduceAdd];refine Ev.is (kK _ _ _) ?_;refine Ev.Oh (D8 hj _ _ _) λz s4 Hz ez iW=>?_
  try simp -implicitDefEqProofs only[sS,Nat.reduceAdd]
  exact Ev.ret (jH.of iW (by rw[E,Y.aJ ez];rfl))
 cases zb<;>try simp -implicitDefEqProofs only[sS,Nat.reduceAdd]
 ·exact Ev.ret (jH.of yT (by rw[E0];rfl))
 rw[if_neg (by simp)] at E0
 obtain⟨_,o1,uD,Dh,hs⟩:=id LY;refine Ev.gtr (λhq=>?_) (λhq=>?_)<;>try simp -implicitDefEqProofs only[hs.len,sS,Nat.reduceAdd]
 ·refine Ev.gtr (λkt=>?_) (λkt=>?_)<;>try simp -implicitDefEqProofs only[sS,Nat.reduceAdd]
  ·refine Ev.is (pB _ _) ?_;obtain⟨i',off,b,e1,e2,e3,e4⟩:=hs.idx (j:=0) (by omega)
   obtain⟨e5,e6,_⟩:=e4 _ e2;simp only[Int.natCast_zero] at e1;simp -implicitDefEqProofs only[e1,gQ,Nat.add_zero,e5,sS,Nat.reduceAdd];refine Ev.Yu (Cx yT _ _) λv u s3 Hz ew hj=>?_
   try simp -implicitDefEqProofs only[e5,sS,Nat.reduceAdd]
   refine J0 _ _ _ _ _ _ _ hj ?_;cases l with
   |nil=>simp at kt
   |cons kv l=>rw[E0];unfold Y.KZ;simp only[if_pos hq];exact Y.aJ ew
  ·refine J0 _ _ _ _ _ _ _ yT ?_;have:l=[]:=List.length_eq_zero_iff.1 (by omega)
   subst this;rw[E0];rfl
 ·refine J0 _ _ _ _ _ _ _ yT ?_;rw[E0];unfold Y.KZ;cases l with
  |nil=>rfl
  |cons kv l=>simp only[if_neg hq]
theorem F4 {g fx:Nat}{a t n x:Int}{s:Y.St}(h:s.off=true):Y.ah (Y.kg g a t n x fx) s=(true,s):=by
 cases fx with
 |zero=>rfl
 |succ fx=>unfold Y.kg;simp only[Y.ak,bk,bH,bL,cR,cS,ne_eq,not_true_eq_false,not_false_eq_true,if_true,if_false,Bool.not_true,Bool.not_false,true_and,and_true,false_and,and_false,true_or,or_true,false_or,or_false,Bool.false_eq_true,decide_true,decide_false,h]
theorem Lg {g fx:Nat}{a t n x:Int}{s:Y.St}{k:Bool→Y.Tr β}(h:s.off=false):Y.ah (Y.kg g a t n x (fx+1) >>= k) s=Y.ah ((Y.ad (Y.wr (a+4)) 1 >>= λi=>if i≥bo n then pure true else Y.gT >>= λb=>if b then pure true else Y.oN g t n x (bo n) i >>= λok=>if ok=false then pure false else Y.kg g a t n x fx) >>= k) s:=by
 rw[Y.ak]
 conv=>lhs;unfold Y.kg
 simp only[Y.ak,bk,bH,bL,cR,cS,ne_eq,not_true_eq_false,not_false_eq_true,if_true,if_false,Bool.not_true,Bool.not_false,true_and,and_true,false_and,and_false,true_or,or_true,false_or,or_false,Bool.false_eq_true,decide_true,decide_false,h,pP]
theorem AX {g fx:Nat}{t n x j:Int}{s:Y.St}(h:s.off=true∨¬j<bo n):Y.ah (Y.gK g t n x fx j) s=(true,s):=by
 cases fx with
 |zero=>rfl
 |succ fx=>
  unfold Y.gK;rw[pP];by_cases h1:j<bo n
  ·rw[if_neg (by omega)]
   have h2:=h.resolve_right λk=>k h1
   simp only[Y.ak,bk,bH,bL,cR,cS,ne_eq,not_true_eq_false,not_false_eq_true,if_true,if_false,Bool.not_true,Bool.not_false,true_and,and_true,false_and,and_false,true_or,or_true,false_or,or_false,Bool.false_eq_true,decide_true,decide_false,h2]
  ·rw[if_pos h1];rfl
theorem OF {g fx:Nat}{t n x j:Int}{s:Y.St}(h:s.off=false)(h1:j<bo n):Y.ah (Y.gK g t n x (fx+1) j) s=Y.ah (Y.rd (Y.dh x (bo n) j) >>= λc=>if c≠0 then Y.gK g t n x fx (j+1) else Y.gT >>= λb=>if b then Y.gK g t n x fx (j+1) else Y.oN g t n x (bo n) j >>= λok=>if ok=false then pure false else Y.gK g t n x fx (j+1)) s:=by
 conv=>lhs;unfold Y.gK
 rw[pP,if_neg (by omega)]
 simp only[Y.ak,bk,bH,bL,cR,cS,ne_eq,not_true_eq_false,not_false_eq_true,if_true,if_false,Bool.not_true,Bool.not_false,true_and,and_true,false_and,and_false,true_or,or_true,false_or,or_false,Bool.false_eq_true,decide_true,decide_false,h]
theorem R0 (h:JX K p st H){f:Nat}(hf:st.left≤f)(a:Int){t:Int}(ht: -9223372036854775808≤t∧t≤65536)(n x:Int):aE (run G) 152 [pv p,cv a,cv t,cv n,cv x] H (jH K p st (Y.gg (f+1) a t n x)):=by
 have w4:IntKind.i64.wrap (a+4)=Y.wr (a+4):=cI _;refine Ev.up (t:=λk=>Wg (run G k) k (pv p) (cv a) (cv t) (cv n) (cv x) H) ?_ λk=>Q6 ..
 simp -implicitDefEqProofs only[Wg,sS,Nat.reduceAdd];refine Ev.call (jS _) ?_;rintro v PI ⟨rfl,rfl⟩
 try simp -implicitDefEqProofs only[sS,Nat.reduceAdd]
 have B:Y.ah (Y.gg (f+1) a t n x) st=Y.ah (Y.kg (f+1) a t n x (f+1) >>= λok=>if ok=false then pure false else Y.gK (f+1) t n x (f+1) 0) st:=rfl
 refine Ev.loop (k:=st.left) (λk vs Hx=>∃(sx:Y.St) (fx:Nat) (aC bl aN ca bR cw aI er aM eQ fO:Value),JX K p sx Hx∧k=sx.left∧sx.left≤f∧(sx.left+1≤fx∨sx.off=true)∧Y.ah (Y.gg (f+1) a t n x) st=Y.ah (Y.kg (f+1) a t n x fx >>= λok=>if ok=false then pure false else Y.gK (f+1) t n x (f+1) 0) sx∧vs=[pv p,cv a,cv t,cv n,cv x,aC,bl,aN,cv (bo n),ca,bR,cw,aI,er,aM,eQ,fO])
  (λr=>∃sx,JX K p sx r.2.2∧sx.left≤f∧((r.1= .exit 0∧Y.ah (Y.gg (f+1) a t n x) st=Y.ah (Y.gK (f+1) t n x (f+1) 0) sx)∨(r.1= .ret∧∃u,r.2.1[5]? =some (.bool u)∧Y.ah (Y.gg (f+1) a t n x) st=(u,sx)))∧∃(aC bl aN ca bR cw aI er aM eQ fO:Value),r.2.1=[pv p,cv a,cv t,cv n,cv x,aC,bl,aN,cv (bo n),ca,bR,cw,aI,er,aM,eQ,fO]) ⟨st,f+1,_,_,_,_,_,_,_,_,_,_,_,h,rfl,hf,.inl (by omega),B,rfl⟩ ?_ ?_
 ·rintro k vs Hx ⟨sx,fx,aC,bl,aN,ca,bR,cw,aI,er,aM,eQ,fO,hj,rfl,hl,pd,E,rfl⟩;simp -implicitDefEqProofs only[Km,xS,sS,Nat.reduceAdd];refine Ev.nW hj (λhq=>?_) (λhq=>?_)<;>try simp -implicitDefEqProofs only[sS,Nat.reduceAdd]
  ·rw[Y.ak,F4 hq] at E;exact Ev.ret (.inr ⟨by simp,sx,hj,hl,.inl ⟨rfl,E⟩,_,_,_,_,_,_,_,_,_,_,_,rfl⟩)
  have l4:=iE hq;have Ow:sx.left+1≤fx:=pd.resolve_right (by rw[hq];simp)
  obtain⟨fy,rfl⟩: ∃fy,fx=fy+1:=⟨fx-1,by omega⟩
  rw[Lg hq] at E;simp only[Y.bind_assoc] at E;simp -implicitDefEqProofs only[w4,sS,Nat.reduceAdd];refine Ev.eS (Tq hj _ _) λi s1 H1 e1 fv=>?_
  have l5:s1.left=sx.left-1:=by
   have h:=Y.tz (.ad (Y.wr (a+4)) 1) sx;have e2:(Y.oM (.ad (Y.wr (a+4)) 1) sx).2=s1:=congrArg Prod.snd e1;rw[e2] at h;exact h
  rw[Y.aJ e1] at E
  try simp -implicitDefEqProofs only[sS,Nat.reduceAdd]
  refine Ev.geq (λh2=>?_) (λh2=>?_)<;>try simp -implicitDefEqProofs only[sS,Nat.reduceAdd]
  ·rw[if_pos h2,Y.bind_pure] at E;exact Ev.ret (.inr ⟨by simp,s1,fv,by omega,.inl ⟨rfl,E⟩,_,_,_,_,_,_,_,_,_,_,_,rfl⟩)
  rw[if_neg h2] at E;refine Ev.nW fv (λqv=>?_) (λqv=>?_)<;>try simp -implicitDefEqProofs only[sS,Nat.reduceAdd]
  ·have E':Y.ah (Y.gg (f+1) a t n x) st=Y.ah (Y.gK (f+1) t n x (f+1) 0) s1:=by rw[E,Y.ak];simp only[Y.ak,bk,bH,bL,cR,cS,ne_eq,not_true_eq_false,not_false_eq_true,if_true,if_false,Bool.not_true,Bool.not_false,true_and,and_true,false_and,and_false,true_or,or_true,false_or,or_false,Bool.false_eq_true,decide_true,decide_false,qv];rfl
   exact Ev.ret (.inr ⟨by simp,s1,fv,by omega,.inl ⟨rfl,E'⟩,_,_,_,_,_,_,_,_,_,_,_,rfl⟩)
  refine Ev.K4 (OE fv (f:=f) (by omega) ht n x (bo n) i) λok s2 H2 e2 fH=>?_
  have l6:=dk e2;have E':Y.ah (Y.gg (f+1) a t n x) st=Y.ah (if ok=false then pure false else Y.kg (f+1) a t n x fy >>= λok=>if ok=false then pure false else Y.gK (f+1) t n x (f+1) 0) s2:=by
   rw[E,Y.ak];simp only[Y.ak,bk,bH,bL,cR,cS,ne_eq,not_true_eq_false,not_false_eq_true,if_true,if_false,Bool.not_true,Bool.not_false,true_and,and_true,false_and,and_false,true_or,or_true,false_or,or_false,Bool.false_eq_true,decide_true,decide_false,qv,e2];cases ok
   ·rfl
   ·simp only[Bool.true_eq_false,Y.ak,bk,bH,bL,cR,cS,ne_eq,not_true_eq_false,not_false_eq_true,if_true,if_false,Bool.not_true,Bool.not_false,true_and,and_true,false_and,and_false,true_or,or_true,false_or,or_false,Bool.false_eq_true,decide_true,decide_false]
  cases ok<;>try simp -implicitDefEqProofs only[sS,Nat.reduceAdd]
  ·exact Ev.ret (.inr ⟨by simp,s2,fH,by omega,.inr ⟨rfl,false,rfl,E'⟩,_,_,_,_,_,_,_,_,_,_,_,rfl⟩)
  ·rw[if_neg (by decide)] at E'
   exact Ev.ret (.inl ⟨rfl,s2.left,by omega,s2,fy,_,_,_,_,_,_,_,_,_,_,_,fH,rfl,by omega,.inl (by omega),E',rfl⟩)
 ·rintro e vs H1 ⟨s0,hj,hl,he,aC,bl,aN,ca,bR,cw,aI,er,aM,eQ,fO,hv⟩;simp only at hv hj he;subst hv;rcases he with⟨rfl,E0⟩|⟨rfl,u,e1,E0⟩
  ·simp -implicitDefEqProofs only[Kl,xR,sS,Nat.reduceAdd];refine Ev.loop (k:=(bo n).toNat) (λk vs Hx=>∃(i:Nat) (sx:Y.St) (fx:Nat) (aC bl aN ca bR cw er aM eQ fO:Value),JX K p sx Hx∧sx.left≤f∧(sx.left+1≤fx∨sx.off=true)∧(i:Int)+k=bo n∧Y.ah (Y.gg (f+1) a t n x) st=Y.ah (Y.gK (f+1) t n x fx i) sx∧vs=[pv p,cv a,cv t,cv n,cv x,aC,bl,aN,cv (bo n),ca,bR,cw,cv i,er,aM,eQ,fO])
    (λr=>∃sx,JX K p sx r.2.2∧((r.1= .exit 2∧Y.ah (Y.gg (f+1) a t n x) st=(true,sx))∨(r.1= .ret∧∃u,r.2.1[5]? =some (.bool u)∧Y.ah (Y.gg (f+1) a t n x) st=(u,sx)))∧∃(aC bl aN ca bR cw aI er aM eQ fO:Value),r.2.1=[pv p,cv a,cv t,cv n,cv x,aC,bl,aN,cv (bo n),ca,bR,cw,aI,er,aM,eQ,fO]) ⟨0,s0,f+1,_,_,_,_,_,_,_,_,_,_,hj,hl,.inl (by omega),by have:=pz n;omega,E0,rfl⟩ ?_ ?_
   ·rintro k vs Hx ⟨i,sx,fx,aC,bl,aN,ca,bR,cw,er,aM,eQ,fO,hj,hl,pd,hik,E,rfl⟩;have hdn:=pz n;have hw:IntKind.i64.wrap ((i:Int)+1)=((i+1:Nat):Int):=by rw[fL (by omega)];omega
    simp -implicitDefEqProofs only[Kj,xP,sS,Nat.reduceAdd];refine Ev.lss (λh2=>?_) (λh2=>?_)<;>try simp -implicitDefEqProofs only[sS,Nat.reduceAdd]
    rotate_left
    ·rw[AX (.inr h2)] at E;exact Ev.ret (.inr ⟨by simp,sx,hj,.inl ⟨rfl,E⟩,_,_,_,_,_,_,_,_,_,_,_,rfl⟩)
    refine Ev.nW hj (λhq=>?_) (λhq=>?_)<;>try simp -implicitDefEqProofs only[sS,Nat.reduceAdd]
    ·rw[AX (.inl hq)] at E;exact Ev.ret (.inr ⟨by simp,sx,hj,.inl ⟨rfl,E⟩,_,_,_,_,_,_,_,_,_,_,_,rfl⟩)
    have l4:=iE hq;have Ow:sx.left+1≤fx:=pd.resolve_right (by rw[hq];simp)
    obtain⟨fy,rfl⟩: ∃fy,fx=fy+1:=⟨fx-1,by omega⟩
    obtain⟨k1,rfl⟩: ∃k1,k=k1+1:=⟨k-1,by omega⟩
    rw[OF hq h2] at E;have iJ: ∀{sy:Y.St} {H2:aa} (aC bl aN ca bR cw er aM eQ fO:Value),JX K p sy H2→sy.left≤sx.left-1→Y.ah (Y.gg (f+1) a t n x) st=Y.ah (Y.gK (f+1) t n x fy ((i:Int)+1)) sy→Ev (λk=>vn (run G k) k [pv p,cv a,cv t,cv n,cv x,aC,bl,aN,cv (bo n),ca,bR,cw,cv i,er,aM,eQ,fO] H2) λr=>(r.1= .normal∧∃k',k'<k1+1∧∃(i:Nat) (sx:Y.St) (fx:Nat) (aC bl aN ca bR cw er aM eQ fO:Value),JX K p sx r.2.2∧sx.left≤f∧(sx.left+1≤fx∨sx.off=true)∧(i:Int)+k'=bo n∧Y.ah (Y.gg (f+1) a t n x) st=Y.ah (Y.gK (f+1) t n x fx i) sx∧r.2.1=[pv p,cv a,cv t,cv n,cv x,aC,bl,aN,cv (bo n),ca,bR,cw,cv i,er,aM,eQ,fO])∨(r.1≠ .normal∧∃sx,JX K p sx r.2.2∧((r.1= .exit 2∧Y.ah (Y.gg (f+1) a t n x) st=(true,sx))∨(r.1= .ret∧∃u,r.2.1[5]? =some (.bool u)∧Y.ah (Y.gg (f+1) a t n x) st=(u,sx)))∧∃(aC bl aN ca bR cw aI er aM eQ fO:Value),r.2.1=[pv p,cv a,cv t,cv n,cv x,aC,bl,aN,cv (bo n),ca,bR,cw,aI,er,aM,eQ,fO]):=by
     intro sy H2 aC bl aN ca bR cw er aM eQ fO hj De E;simp -implicitDefEqProofs only[Ki,xO,hw,sS,Nat.reduceAdd];refine Ev.ret (.inl ⟨rfl,k1,by omega,i+1,sy,fy,_,_,_,_,_,_,_,_,_,_,hj,by omega,.inl (by omega),by omega,?_,rfl⟩)
     rw[E];congr 1
    refine Ev.is (kK _ _ _) ?_;refine Ev.eS (cX hj _) λc s1 H1 e1 fv=>?_
    have l5:=dj e1;rw[Y.aJ e1] at E
    try simp -implicitDefEqProofs only[sS,Nat.reduceAdd]
    refine Ev.neq (λh3=>?_) (λh3=>?_)<;>try simp -implicitDefEqProofs only[sS,Nat.reduceAdd]
    ·rw[if_pos h3] at E;exact iJ _ _ _ _ _ _ _ _ _ _ fv (by omega) E
    rw[if_neg (by simp[h3])] at E
    refine Ev.nW fv (λqv=>?_) (λqv=>?_)<;>try simp -implicitDefEqProofs only[sS,Nat.reduceAdd]
    ·have E':Y.ah (Y.gg (f+1) a t n x) st=Y.ah (Y.gK (f+1) t n x fy ((i:Int)+1)) s1:=by rw[E];simp only[Y.ak,bk,bH,bL,cR,cS,ne_eq,not_true_eq_false,not_false_eq_true,if_true,if_false,Bool.not_true,Bool.not_false,true_and,and_true,false_and,and_false,true_or,or_true,false_or,or_false,Bool.false_eq_true,decide_true,decide_false,qv]
     exact iJ _ _ _ _ _ _ _ _ _ _ fv (by omega) E'
    refine Ev.K4 (OE fv (f:=f) (by omega) ht n x (bo n) i) λok s2 H2 e2 fH=>?_
    have l6:=dk e2;have E':Y.ah (Y.gg (f+1) a t n x) st=Y.ah (if ok=false then pure false else Y.gK (f+1) t n x fy ((i:Int)+1)) s2:=by
     rw[E];simp only[Y.ak,bk,bH,bL,cR,cS,ne_eq,not_true_eq_false,not_false_eq_true,if_true,if_false,Bool.not_true,Bool.not_false,true_and,and_true,false_and,and_false,true_or,or_true,false_or,or_false,Bool.false_eq_true,decide_true,decide_false,qv,e2]
    cases ok<;>try simp -implicitDefEqProofs only[sS,Nat.reduceAdd]
    ·exact Ev.ret (.inr ⟨by simp,s2,fH,.inr ⟨rfl,false,rfl,E'⟩,_,_,_,_,_,_,_,_,_,_,_,rfl⟩)
    ·rw[if_neg (by decide)] at E'
     exact iJ _ _ _ _ _ _ _ _ _ _ fH (by omega) E'
   ·rintro e vs H2 ⟨sx,fH,he,aC,bl,aN,ca,bR,cw,aI,er,aM,eQ,fO,hv⟩;simp only at hv fH he;subst hv;rcases he with⟨rfl,E⟩|⟨rfl,u,e1,E⟩
    ·simp -implicitDefEqProofs only[Kk,xQ,sS,Nat.reduceAdd];exact Ev.ret (jH.of fH E)
    ·simp only[List.getElem?_cons_succ,List.getElem?_cons_zero,Option.some.injEq] at e1;subst e1;show Ev (λ_=>some (Value.bool u,H2)) _
     exact Ev.ret (jH.of fH E)
  ·simp only[List.getElem?_cons_succ,List.getElem?_cons_zero,Option.some.injEq] at e1;subst e1;show Ev (λ_=>some (Value.bool u,H1)) _
   exact Ev.ret (jH.of hj E0)
end
section
open Go.Proofs.YtgfgglponbmgmaaGreatA
variable {G:ae} {H H':aa} {o o':aj} {p c:Nat} {K:aa→aj→Prop} {t:Int} {x:Value} {l:PL} {st LV s1:Y.St} {α β:Type}
theorem Ir (h:JX K p st H){f:Nat}(hf:st.left≤f)(a:Int):aE (run G) 124 [pv p,cv a] H (jH K p st (Y.gU (f+1) a)):=by
 have w4: ∀j:Int,IntKind.i64.wrap (a+j)=Y.wr (a+j):=λj=>cI _
 refine Ev.up (t:=λk=>VJ (run G k) k (pv p) (cv a) H) ?_ λk=>QJ ..
 simp -implicitDefEqProofs only[VJ,sS,Nat.reduceAdd];have J0: ∀{s3:Y.St} {H1:aa} {n w:Int} (tt:Int) (x4 bZ ca x9 dD x8 dU aC aO:Value),(-9223372036854775808≤tt∧tt≤65536)→JX K p s3 H1→s3.left≤f→Y.ah (Y.gU (f+1) a) st=Y.ah (Y.AN (f+1) a tt n w) s3→Ev (λk=>vg (run G k) k [pv p,cv a,x4,cv tt,bZ,cv w,ca,cv n,x9,dD,x8,dU,aC,aO] H1) λr=>jH K p st (Y.gU (f+1) a) r.1 r.2:=by
  intro s3 H1 n w tt x4 bZ ca x9 dD x8 dU aC aO htt hj hl E;simp -implicitDefEqProofs only[JK,xf,sS,Nat.reduceAdd];have TL: ∀{s4:Y.St} {H4:aa},JX K p s4 H4→Y.ah (Y.gU (f+1) a) st=Y.ah (Y.tA a w) s4→∀{k:Nat→Value→aa→Option (Value×aa)},(∀z s5 H5,Y.ah (Y.gU (f+1) a) st=(z,s5)→JX K p s5 H5→Ev (λn=>k n (.bool z) H5) λr=>jH K p st (Y.gU (f+1) a) r.1 r.2)→
    Ev (λn=>af (run G n 139 [pv p,cv (Y.wr (a+1))] H4) λg H=>af (run G n 139 [pv p,cv (Y.wr (a+2))] H) λs H=>af (run G n 59 [cv 4,cv a] H) λme H=>af (run G n 116 [pv p,g,s,me,cv w] H) λz H=>af (pS (ai Tryz.prog .neq 3 z (cv 3)) H) λz H=>k n z H) λr=>jH K p st (Y.gU (f+1) a) r.1 r.2:=by
   intro s4 H4 iW E4 k hk;refine Ev.eS (cX iW _) λg s5 H5 e5 kh=>?_
   refine Ev.eS (cX kh _) λs s6 H6 e6 n8=>?_
   refine Ev.is (nY _ _) ?_;refine Ev.eS (Cy n8 _ _ _ _) λz s7 H7 e7 CE=>?_
   rw[Ia];simp -implicitDefEqProofs only[sS,Nat.reduceAdd];refine hk _ s7 H7 ?_ CE;rw[E4];unfold Y.tA;simp only[Y.ak,bk,bH,bL,cR,cS,ne_eq,not_true_eq_false,not_false_eq_true,if_true,if_false,Bool.not_true,Bool.not_false,true_and,and_true,false_and,and_false,true_or,or_true,false_or,or_false,Bool.false_eq_true,decide_true,decide_false,e5,e6,e7]
   congr 1
   by_cases hz:z=3<;>simp[hz]
  have w1:=w4 1;have w2:=w4 2;unfold Y.AN at E;refine Ev.geq (λh2=>?_) (λh2=>?_)<;>try simp -implicitDefEqProofs only[sS,Nat.reduceAdd,w1,w2]
  ·rw[if_pos h2] at E;refine Ev.is (nX _) ?_;refine Ev.K4 (R0 hj (f:=f) hl a htt n _) λok s4 H4 e4 iW=>?_
   rw[Y.aJ e4] at E
   try simp -implicitDefEqProofs only[sS,Nat.reduceAdd,w1,w2]
   cases ok<;>try simp -implicitDefEqProofs only[sS,Nat.reduceAdd,w1,w2]
   ·exact Ev.ret (jH.of iW (by rw[E];rfl))
   ·rw[if_neg (by simp)] at E
    exact TL iW E λz s5 H5 e5 kh=>Ev.ret (jH.of kh e5)
  ·rw[if_neg h2] at E;exact TL hj E λz s5 H5 e5 kh=>Ev.ret (jH.of kh e5)
 refine Ev.eS (cX h _) λtw s1 H1 e1 fv=>?_
 have l1:=dj e1
 try simp -implicitDefEqProofs only[sS,Nat.reduceAdd]
 refine Ev.is (nX _) ?_
 try simp -implicitDefEqProofs only[sS,Nat.reduceAdd]
 refine Ev.eS (Xc f fv (by omega) (nM _)) λn s2 H2 e2 fH=>?_
 have l2:=dk e2;simp -implicitDefEqProofs only[w4 3,sS,Nat.reduceAdd];refine Ev.eS (cX fH _) λw s3 H3 e3 gA=>?_
 have l3:=dj e3
 try simp -implicitDefEqProofs only[sS,Nat.reduceAdd]
 refine Ev.nW gA (λhq=>?_) (λhq=>?_)<;>try simp -implicitDefEqProofs only[sS,Nat.reduceAdd]
 ·refine Ev.ret (jH.of gA ?_);unfold Y.gU;simp only[Y.ak,bk,bH,bL,cR,cS,ne_eq,not_true_eq_false,not_false_eq_true,if_true,if_false,Bool.not_true,Bool.not_false,true_and,and_true,false_and,and_false,true_or,or_true,false_or,or_false,Bool.false_eq_true,decide_true,decide_false,e1,e2,e3,hq]
 refine Ev.eql (λh0=>?_) (λh0=>?_)<;>try simp -implicitDefEqProofs only[sS,Nat.reduceAdd]
 ·refine Ev.D7 (aah gA (f:=f) (by omega) (nM _) n) λx b s4 H4 e4 iW=>?_
  have l4:=dk e4
  try simp -implicitDefEqProofs only[sS,Nat.reduceAdd]
  cases b<;>try simp -implicitDefEqProofs only[sS,Nat.reduceAdd]
  ·refine Ev.ret (jH.of iW ?_);unfold Y.gU;simp only[Y.ak,bk,bH,bL,cR,cS,ne_eq,not_true_eq_false,not_false_eq_true,if_true,if_false,Bool.not_true,Bool.not_false,true_and,and_true,false_and,and_false,true_or,or_true,false_or,or_false,Bool.false_eq_true,decide_true,decide_false,e1,e2,e3,hq,h0,e4]
  try simp -implicitDefEqProofs only[w4 3,sS,Nat.reduceAdd]
  refine Ev.Oh (D8 iW _ _ _) λz s5 H5 e5 kh=>?_
  have l5:=dk e5
  try simp -implicitDefEqProofs only[w4 3,sS,Nat.reduceAdd]
  refine Ev.eS (cX kh _) λw' s6 H6 e6 n8=>?_
  have l6:=dj e6
  try simp -implicitDefEqProofs only[sS,Nat.reduceAdd]
  refine J0 _ _ _ _ _ _ _ _ _ _ (nM _) n8 (by omega) ?_
  unfold Y.gU;simp only[Y.ak,bk,bH,bL,cR,cS,ne_eq,not_true_eq_false,not_false_eq_true,if_true,if_false,Bool.not_true,Bool.not_false,true_and,and_true,false_and,and_false,true_or,or_true,false_or,or_false,Bool.false_eq_true,decide_true,decide_false,e1,e2,e3,hq,h0,e4,Bool.true_eq_false,e5,e6]
 ·refine J0 _ _ _ _ _ _ _ _ _ _ (nM _) gA (by omega) ?_
  unfold Y.gU;simp only[Y.ak,bk,bH,bL,cR,cS,ne_eq,not_true_eq_false,not_false_eq_true,if_true,if_false,Bool.not_true,Bool.not_false,true_and,and_true,false_and,and_false,true_or,or_true,false_or,or_false,Bool.false_eq_true,decide_true,decide_false,e1,e2,e3,hq,h0]
theorem JX.box (h:JX K p st H)(cs:List Value)(T:TypeId):JX (λH' o=>K H' o∧H'.get H.length=some ⟨cs,T,1,false⟩∧o H.length= -9∧H.length<H'.length) p st (H.new ⟨cs,T,1,false⟩):=by
 obtain⟨hK,o,hr,hk⟩:=h;have f:Fr H o (H.new ⟨cs,T,1,false⟩) (o.up H.length (-9)) []:=(Fr.refl H o []).new _ _;refine⟨hK.and λH1 o1 H2 o2 a f=>?_,_,hr.fr f (by simp) (by simp) (by simp),hK _ _ _ _ hk (f.wk (by simp)),aL,aP,by rw[cA];omega⟩
 obtain⟨a1,a2,a3⟩:=a;exact⟨by rw[f.same _ a3 (by rw[a2];simp)];exact a1,by rw[f.own _ a3];exact a2,by have:=f.size;omega⟩
theorem R1 (h:JX K p st H){f:Nat}(hf:st.left≤f){a:Int}(ha: -9223372036854775808≤a∧a≤65536)(b c:Int):aE (run G) 125 [pv p,.agg #[cv a,cv b,cv c]] H (jH K p st (Y.oO (f+1) ⟨a,b,c⟩)):=by
 have w2:IntKind.i64.wrap (a+2)=a+2:=fL (by omega)
 refine Ev.up (t:=λk=>VX (run G k) k (pv p) (.agg #[cv a,cv b,cv c]) H) ?_ λk=>QT ..
 have hK:=h.1;have hjb:=h.box [cv a,cv b,cv c] 37;have hU: ∀{s':Y.St} {H':aa},JX (λH' o=>K H' o∧H'.get H.length=some ⟨[cv a,cv b,cv c],37,1,false⟩∧o H.length= -9∧H.length<H'.length) p s' H'→JX K p s' H':=λhj=>hj.mono hK λo a=>a.1
 obtain⟨H1,e1⟩: ∃z,z=H.new ⟨[cv a,cv b,cv c],37,1,false⟩:=⟨_,rfl⟩;have g1:H1.get H.length=some ⟨[cv a,cv b,cv c],37,1,false⟩:=by rw[e1];exact aL
 rw[←e1] at hjb;have L0:=λ{H':aa} (g:H'.get H.length=some ⟨[cv a,cv b,cv c],37,1,false⟩)=>ao H.length 0 H' g
 have L1:=λ{H':aa} (g:H'.get H.length=some ⟨[cv a,cv b,cv c],37,1,false⟩)=>ao H.length 1 H' g
 have L2:=λ{H':aa} (g:H'.get H.length=some ⟨[cv a,cv b,cv c],37,1,false⟩)=>ao H.length 2 H' g
 simp only[List.getElem?_cons_succ,List.getElem?_cons_zero] at L0 L1 L2;simp -implicitDefEqProofs only[VX,aaf, ←e1,L0 g1,L1 g1,L2 g1,sS,Nat.reduceAdd,w2];refine Ev.RP (yL hjb _ _ _) λw Hz hj=>?_
 refine Ev.si (nu hj) λz s1 Hz ez hj=>?_
 simp -implicitDefEqProofs only[sS,Nat.reduceAdd];refine Ev.brN (λhz=>?_) (λhz=>?_)<;>try simp -implicitDefEqProofs only[sS,Nat.reduceAdd]
 ·refine Ev.ret (jH.of (hU hj) ?_);unfold Y.oO;simp only[Y.ak,bk,bH,bL,cR,cS,ne_eq,not_true_eq_false,not_false_eq_true,if_true,if_false,Bool.not_true,Bool.not_false,true_and,and_true,false_and,and_false,true_or,or_true,false_or,or_false,Bool.false_eq_true,decide_true,decide_false,ez,hz]
 obtain⟨_,o2,_,_,g2,_⟩:=id hj;simp -implicitDefEqProofs only[L0 g2,L1 g2,L2 g2,sS,Nat.reduceAdd,w2];refine Ev.is (nY _ _) ?_;refine Ev.eS (Cy hj _ _ _ _) λr s2 Hz e2 fH=>?_
 have l1:s1.left≤st.left:=dk ez;have l2:=dk e2;simp -implicitDefEqProofs only[L0 g2,L1 g2,L2 g2,sS,Nat.reduceAdd,w2];have gA:=hU fH;have E:Y.ah (Y.oO (f+1) ⟨a,b,c⟩) st=Y.ah (if r=1 then Y.gU (f+1) z else pure (decide (r≠3))) s2:=by
  unfold Y.oO;simp only[Y.ak,bk,bH,bL,cR,cS,ne_eq,not_true_eq_false,not_false_eq_true,if_true,if_false,Bool.not_true,Bool.not_false,true_and,and_true,false_and,and_false,true_or,or_true,false_or,or_false,Bool.false_eq_true,decide_true,decide_false,ez,hz,e2]
 refine Ev.eql (λh1=>?_) (λh1=>?_)<;>try simp -implicitDefEqProofs only[sS,Nat.reduceAdd]
 ·rw[if_pos h1] at E;refine Ev.K4 (Ir gA (f:=f) (by omega) z) λok s3 H3 e3 iW=>?_
  try simp -implicitDefEqProofs only[sS,Nat.reduceAdd]
  exact Ev.ret (jH.of iW (by rw[E,e3]))
 rw[if_neg h1] at E;refine Ev.eql (λh3=>?_) (λh3=>?_)<;>try simp -implicitDefEqProofs only[sS,Nat.reduceAdd]
 ·exact Ev.ret (jH.of gA (by rw[E];simp only[Y.ak,bk,bH,bL,cR,cS,ne_eq,not_true_eq_false,not_false_eq_true,if_true,if_false,Bool.not_true,Bool.not_false,true_and,and_true,false_and,and_false,true_or,or_true,false_or,or_false,Bool.false_eq_true,decide_true,decide_false,h3]))
 ·exact Ev.ret (jH.of gA (by rw[E];simp only[Y.ak,bk,bH,bL,cR,cS,ne_eq,not_true_eq_false,not_false_eq_true,if_true,if_false,Bool.not_true,Bool.not_false,true_and,and_true,false_and,and_false,true_or,or_true,false_or,or_false,Bool.false_eq_true,decide_true,decide_false,h3]))
end
abbrev kk:List FuncId:=[14,25,34,45]
theorem okP:mK Tryz.prog (oj Tryz.prog)=true:=by kernel_rfl
theorem acw:mK Tryz.prog (kk++oj Tryz.prog)=true:=by kernel_rfl
theorem Lh:(kk.all λk=>(gr Tryz.prog (oj Tryz.prog) LS 2000 k [] []).any λr=>pG r.1 (.bool true))=true:=by kernel_rfl
abbrev KG:ae:=qC kk
theorem Xg {f:FuncId}{ts:List TypeId}(h: ∀H args,jw H→yz Tryz.prog H 9 ts args→∃n H',run KG n f args H=some (.bool true,H')):Tl Tryz.prog f ts:=
 Tl.N7 kk 2000 okP acw Lh h
end Go.Proofs.YtgfgglponbmgmaaGreat.Fun
end
section
namespace Go.Proofs.YtgfgglponbmgmaaGreat.Fun
open Go Go.RowKit Go.Proofs.YtgfgglponbmgmaaGreatA.Am
section
variable {G:ae} {n:Nat}
def _root_.Go.Proofs.YtgfgglponbmgmaaGreatA.Am.aj.from (o:aj)(n:Nat)(Q:Int):aj:=λi=>if n≤i then Q else o i
theorem CF {o:aj}{n i:Nat}{Q:Int}(h:n≤i):o.from n Q i=Q:=by simp[aj.from,h]
theorem CG {o:aj}{n i:Nat}{Q:Int}(h:i<n):o.from n Q i=o i:=by unfold aj.from;rw[if_neg (by omega)]
end
structure Ext (H H':aa):Prop where
 old: ∀j,j<H.length→H'[j]? =H[j]?
 size:H.length≤H'.length
theorem Ext.refl (H:aa):Ext H H:=⟨λ_ _=>rfl,Nat.le_refl _⟩
theorem Ext.trans {H H1 H2:aa}(a:Ext H H1)(b:Ext H1 H2):Ext H H2:=⟨λj hj=>by rw[b.old j (Nat.lt_of_lt_of_le hj a.size),a.old j hj],Nat.le_trans a.size b.size⟩
theorem Ext.new {H H1:aa}(a:Ext H H1)(c:eM):Ext H (H1.new c):=a.trans ⟨λj hj=>mE hj,by rw[cA];omega⟩
theorem Ext.put {H H1:aa}(a:Ext H H1){i:Nat}{c:eM}(h:H.length≤i):Ext H (H1.put i c):=⟨λj hj=>by rw[fi (by omega),a.old j hj],by rw[iC];exact a.size⟩
theorem Ext.fr {H H':aa}(a:Ext H H')(o:aj)(Q:Int):Fr H o H' (o.from H.length Q) []:=⟨λj hj _=>a.old j hj,λj hj=>CG hj,a.size⟩
theorem Ext.get {H H':aa}(a:Ext H H'){i:Nat}{b:eM}(h:H.get i=some b):H'.get i=some b:=by rw[dZ (a.old i (ar h))];exact h
theorem Ext.of {H H':aa}{o o':aj}{ps:List Int}(f:Fr H o H' o' ps)(h: ∀i,i<H.length→o i ∉ ps):Ext H H':=⟨λj hj=>f.slot j hj (h j hj),f.size⟩
section
variable {G:ae} {H:aa} {o:aj} {q:Int} {x:Value} {l:PL} {n p:Nat}
end
structure jY where
 kind:Int
 key:Int
 value:Int
structure eI where
 D5:Int
 found:Bool
 key:Int
 value:Int
 n:Int
 list:PL
abbrev jj (op:jY):Value:=.agg #[cv op.kind,cv op.key,cv op.value]
abbrev gj (r:eI)(s:Value):Value:=.agg #[cv r.D5,.bool r.found,cv r.key,cv r.value,cv r.n,s]
def bQ:eI:=⟨0,false,0,0,0,[]⟩
def Li (t:Int×Int×Bool):eI:=if t.2.2 then⟨0,true,t.1,t.2.1,0,[]⟩ else bQ
def lE (w:Int):eI:=⟨w,false,0,0,0,[]⟩
theorem CH (op:jY)(H:aa):dH 39 (jj op) H=some (pv H.length,H.new ⟨[cv op.kind,cv op.key,cv op.value],39,1,false⟩):=by
 simp[dH,Value.cells,aD,aS]
theorem PO {H:aa}{b:Nat}{op:jY}{t:TypeId}(h:H.get b=some ⟨[cv op.kind,cv op.key,cv op.value],t,1,false⟩):cZ 3 (pv b) H=some (jj op):=by
 simp[cZ,aR,h]
theorem tD (b:Nat)(r:eI){s:Value}{a:Option Addr}{m c:Nat}(es:s= .slice a m c){cs:List Value}{t:TypeId}(H:aa)(h:H.get b=some ⟨cs,t,1,false⟩)(hl:cs.length=6):
  bD 6 (pv b) (gj r s) H=some (undef,H.put b ⟨[cv r.D5,.bool r.found,cv r.key,cv r.value,cv r.n,s],t,1,false⟩):=by
 subst es;obtain⟨c0,c1,c2,c3,c4,c5,rfl⟩: ∃c0 c1 c2 c3 c4 c5,cs=[c0,c1,c2,c3,c4,c5]:=by
  match cs,hl with
  | [c0,c1,c2,c3,c4,c5],_=>exact⟨c0,c1,c2,c3,c4,c5,rfl⟩
 simp[bD,bW,h,Value.cells,known,aD,dt]
theorem pQ (b:Nat)(r:eI){s:Value}{t:TypeId}(H:aa)(h:H.get b=some ⟨[cv r.D5,.bool r.found,cv r.key,cv r.value,cv r.n,s],t,1,false⟩):cZ 6 (pv b) H=some (gj r s):=by
 simp[cZ,aR,h]
abbrev aA:Value:=.slice none 0 0
theorem CI:aF Tryz.prog 47 []=some (gj bQ aA):=by kernel_rfl
theorem Xh (k v:Int):aF Tryz.prog 47 [(1,.bool true),(2,.agg #[cv k,cv v])]=some (gj (Li (k,v,true)) aA):=by kernel_rfl
theorem Lj (w:Int):aF Tryz.prog 47 [(0,cv w)]=some (gj (lE w) aA):=by kernel_rfl
theorem aai (a:Option Addr)(m c:Nat):aF Tryz.prog 47 [(4,.slice a m c)]=some (.agg #[cv 0,.bool false,cv 0,cv 0,cv 0,.slice a m c]):=by kernel_rfl
theorem acx (w:Int):aF Tryz.prog 47 [(3,cv w)]=some (gj ⟨0,false,0,0,w,[]⟩ aA):=by kernel_rfl
theorem tF (t:Int×Int×Bool):(Li t).list=[]:=by unfold Li;split<;>rfl
section
variable {G:ae} {H:aa} {o:aj} {q:Int} {x:Value} {l:PL} {n p:Nat}
end
end Go.Proofs.YtgfgglponbmgmaaGreat.Fun
end
