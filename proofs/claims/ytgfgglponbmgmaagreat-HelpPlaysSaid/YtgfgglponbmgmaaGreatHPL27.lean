/- Texts of the proof of helpPlays_holds, put together by a small program of ours (names shortened, spaces taken out). No condition beyond the given statement. -/
import Derived.Test.YtgfgglponbmgmaaGreatHPL15
import Derived.Test.YtgfgglponbmgmaaGreatHPL14
import Derived.Test.YtgfgglponbmgmaaGreatHPL17
import Derived.Test.YtgfgglponbmgmaaGreatHPL18
import Derived.Test.YtgfgglponbmgmaaGreatHPL26
import Derived.Test.YtgfgglponbmgmaaGreatHPL11
import Derived.Test.YtgfgglponbmgmaaGreatHPL12
import Derived.Test.YtgfgglponbmgmaaGreatHPL16
import Derived.Test.YtgfgglponbmgmaaGreatHPL19
import Derived.Test.YtgfgglponbmgmaaGreatHPL9
import Derived.Test.YtgfgglponbmgmaaGreatHPL20
set_option linter.unusedVariables false
set_option linter.unusedSimpArgs false
set_option linter.unnecessarySimpa false
noncomputable section
section
namespace Go.Proofs.YtgfgglponbmgmaaGreat.Fun
open Go Go.RowKit Go.Proofs.YtgfgglponbmgmaaGreatA.Am
set_option maxRecDepth 10000
section
open Go.Proofs.YtgfgglponbmgmaaGreatA
variable {G:ae} {H H':aa} {o o':aj} {p c:Nat} {K:aa→aj→Prop} {t:Int} {x:Value} {l:PL} {st Nz s1:Y.St} {α β:Type}
theorem JX.uL (h:JX K p st H)(f: ∀o,∃o',Fr H o H' o' []):JX K p st H':=by
 obtain⟨hK,o,hr,hk⟩:=h;obtain⟨o',f⟩:=f o;exact⟨hK,o',hr.fr f (by simp) (by simp) (by simp),hK _ _ _ _ hk (f.wk (by simp))⟩
theorem JX.sl (h:JX (λH o=>K H o∧gT H o t x l) p st H)(hK:bH [(p:Int)] K):JX K p st H:=h.mono hK λo a=>a.1
theorem abj (h:JX K p st H){d:Int}(h1:1≤d∧d≤128){T:TypeId}: ∃s1 s2 H1 H2,Wj T 1 8 [cv 0] (cv (d-1)) (cv (d-1)) (H.cF 1)=some (s1,H1)∧KI H.length (msB T 1 8 [cv 0] (cv d) (cv d)) H1=some (s2,H2)∧JX K p st H2∧eO H2 s1 (List.replicate (d-1).toNat 0)∧eO H2 s2 (List.replicate d.toNat 0):=by
 obtain⟨e,he⟩: ∃e:Nat,d=e+1:=⟨(d-1).toNat,by omega⟩
 subst he;have e1:(e:Int)+1-1=e:=by omega
 have e2:((e:Int)+1).toNat=e+1:=by omega
 have hb:msB T 1 8 [cv 0] (cv ((e:Int)+1)) (cv ((e:Int)+1))=some (λi=>.slice (some ⟨i,0,none⟩) (e+1) (e+1),⟨bK [cv 0] (e+1),T,1,false⟩):=by
  unfold msB Wj;simp only[e2];rw[if_pos (by omega)];rfl
 have hlen:(H.cF 1).length=H.length+1:=Bi 1;have hole:((H.cF 1).new ⟨bK [cv 0] e,T,1,false⟩)[H.length]? =some .hole:=by
  unfold aa.new;rw[List.getElem?_append_left (by omega)];exact Bh
 refine⟨.slice (some ⟨H.length+1,0,none⟩) e e,.slice (some ⟨H.length,0,none⟩) (e+1) (e+1),(H.cF 1).new ⟨bK [cv 0] e,T,1,false⟩,((H.cF 1).new ⟨bK [cv 0] e,T,1,false⟩).set H.length (.zL ⟨bK [cv 0] (e+1),T,1,false⟩),?_,?_,?_,?_,?_⟩
 ·unfold Wj;simp only[e1,hlen,Int.toNat_natCast];rw[if_pos (by omega)]
 ·rw[hb];exact Ib hole
 ·refine h.uL λo=>⟨(o.up H.length (-9)).up (H.length+1) (-9),?_⟩
  refine⟨λi hi _=>?_,λi hi=>?_,?_⟩
  ·rw[jr (by omega)]
   unfold aa.new;rw[List.getElem?_append_left (by omega),G9 hi]
  ·rw[dP (by omega),dP (by omega)]
  ·simp only[List.length_set,cD,hlen];omega
 ·refine .inr ⟨H.length+1,0,e,by simp,λ_=>⟨⟨bK [cv 0] e,T,1,false⟩,?_,rfl,?_,?_⟩⟩
  ·have g:=aL (H:=H.cF 1) (c:=⟨bK [cv 0] e,T,1,false⟩);rw[hlen] at g;rw[eA (jr (by omega))];exact g
  ·simp[wh]
  ·simp[wh,e1]
 ·refine .inr ⟨H.length,0,e+1,by simp[e2],λ_=>⟨⟨bK [cv 0] (e+1),T,1,false⟩,?_,rfl,?_,?_⟩⟩
  ·exact sw (by rw[cD,hlen];omega)
  ·simp[wh,e2]
  ·simp[wh,e2]
theorem Ev.Vf {k:Nat→Value→aa→Option α}{Q:α→Prop}(h:JX K p st H){f:Nat}(hf:st.left≤f){a:Int}(ha: -9223372036854775808≤a∧a≤65536){b d:Int}(hk: ∀t y l s1 H',Y.ah (Y.gO (f+1) a b d []) st=(l,s1)→t≠(p:Int)→JX (λH o=>K H o∧gT H o t y l) p s1 H'→l.length≤1048577→Ev (λn=>k n y H') Q):
  Ev (λn=>af (run G n 122 [pv p,cv a,cv b,cv d,.slice none 0 0] H) (k n)) Q:=by
 have ZW:=h.left;obtain⟨hK,o,hr,hk0⟩:=h;obtain⟨t,P5,C8⟩:=gI o H.length;have ht:oZ t p:=⟨by omega,by omega,by omega⟩
 have hB:bH [(p:Int),t] λH' o'=>Fr H o H' o' [t,(p:Int)]:=bH.base (by simp)
 refine Ev.abe (PY (c:=1048577) hB ht (by omega) f (x:=.slice none 0 0) (l:=[]) ⟨bH.ko ht hB,o,hr,Fr.refl _ _ _,.inl ⟨rfl,rfl⟩⟩ hf (by simpa using ZW) ha b d) ?_
 rintro y l s1 H' e ⟨_,o',VO,lj,hs⟩ hl;exact hk t y l s1 H' e ht.ne ⟨hK.and (bH.kJ (by simpa using ht.ne)),o',VO,hK _ _ _ _ hk0 (iS lj λi hi=>by have:=C8 i hi;omega),hs.r⟩ (by omega)
theorem abk (h:JX K p st H){f:Nat}(hf:st.left≤f){a:Int}(ha: -9223372036854775808≤a∧a≤65536)(n:Int):aF (run G) 151 [pv p,cv a,cv n] H (iN K p st (Y.C7 (f+1) a n)):=by
 refine Ev.up (t:=λk=>Xw (run G k) k (pv p) (cv a) (cv n) H) ?_ λk=>Sh ..
 simp -implicitDefEqProofs only[Xw,sS,Nat.reduceAdd];have hK:=h.1;have J0: ∀{y:Value} {l:PL} {t:Int} {s1:Y.St} {H1:aa} (x6 x7 aI x8 x9 aC cu cC:Value),t≠(p:Int)→JX (λH o=>K H o∧gT H o t y l) p s1 H1→l.length≤1048577→Y.ah (Y.C7 (f+1) a n) st=Y.ah (if s1.off then pure (0,false) else Y.iM (l.length+1) l) s1→Ev (λk=>vL (run G k) k [pv p,cv a,cv n,x6,x7,aI,x8,x9,aC,cu,cC,y] H1) λr=>iN K p st (Y.C7 (f+1) a n) r.1 r.2:=by
  intro y l t s1 H1 x6 x7 aI x8 x9 aC cu cC ht hj hl E;simp -implicitDefEqProofs only[LI,ya,sS,Nat.reduceAdd];have zN:=hj.sl hK;refine Ev.nZ hj (λhq=>?_) (λhq=>?_)<;>try simp -implicitDefEqProofs only[sS,Nat.reduceAdd]
  ·exact Ev.ret (iN.of zN (by rw[E,if_pos hq];rfl))
  ·refine Ev.Fc (P3 _ rfl (by omega) hj ht (λH o a=>a.2) (Nat.le_refl _)) λz zb s2 Hz ez NC=>?_
   have zu:=NC.sl hK
   try simp -implicitDefEqProofs only[sS,Nat.reduceAdd]
   exact Ev.ret (iN.of zu (by rw[E,if_neg (by simp[hq]),ez]))
 refine Ev.geq (λhq=>?_) (λhq=>?_)<;>try simp -implicitDefEqProofs only[sS,Nat.reduceAdd]
 ·refine Ev.call (kh _) ?_;rintro v Q8 ⟨rfl,rfl⟩;have hd:=pD n;have hx:1≤(if(1:Int)>bq n then 1 else bq n)∧(if(1:Int)>bq n then 1 else bq n)≤128:=by split<;>omega
  simp -implicitDefEqProofs only[UX,sS,Nat.reduceAdd];obtain⟨d,Re⟩: ∃d,d=(if(1:Int)>bq n then 1 else bq n):=⟨_,rfl⟩
  have hd3:max (Y.bq n) 1=d:=by rw[pU,Re];split<;>omega
  rw[←Re] at hx ⊢;obtain⟨s1,s2,H2,H3,g1,g2,g3,g4,g5⟩:=abj h hx (T:=2);have hw:IntKind.i64.wrap (d-1)=d-1:=ga (by omega)
  simp -implicitDefEqProofs only[hw,g1,Nat.add_zero,g2,sS,Nat.reduceAdd];refine Ev.Tl (nH g3 _ g4 g5 (by simp;omega)) λw Hz hjw=>?_
  refine Ev.sH (nE hjw) λz s1 Hz ez hj=>?_
  try simp -implicitDefEqProofs only[sS,Nat.reduceAdd]
  refine Ev.is (n5 _ _) ?_
  try simp -implicitDefEqProofs only[sS,Nat.reduceAdd]
  refine Ev.ret (iN.of hj ?_);unfold Y.C7;rw[if_pos hq];simp only[Y.al,bn,bG,bM,cW,cX,ne_eq,not_true_eq_false,not_false_eq_true,if_true,if_false,Bool.not_true,Bool.not_false,true_and,and_true,false_and,and_false,true_or,or_true,false_or,or_false,Bool.false_eq_true,decide_true,decide_false,hd3,ez]
 ·refine Ev.eql (λkn=>?_) (λkn=>?_)<;>try simp -implicitDefEqProofs only[sS,Nat.reduceAdd]
  ·refine Ev.Vf h hf ha λt y l s1 H1 e ht hj hl=>?_
   try simp -implicitDefEqProofs only[sS,Nat.reduceAdd]
   refine J0 _ _ _ _ _ _ _ _ ht hj hl ?_;unfold Y.C7;rw[if_neg hq,if_pos kn];simp only[Y.al,bn,bG,bM,cW,cX,ne_eq,not_true_eq_false,not_false_eq_true,if_true,if_false,Bool.not_true,Bool.not_false,true_and,and_true,false_and,and_false,true_or,or_true,false_or,or_false,Bool.false_eq_true,decide_true,decide_false,e];rfl
  ·refine J0 (t:= -9) (l:=[]) (s1:=st) _ _ _ _ _ _ _ _ (by omega) ⟨hK.and (bH.kJ (by simp)),?_⟩ (by simp) ?_
   ·obtain⟨_,o,hr,hk⟩:=h;exact⟨o,hr,hk,.nil⟩
   ·unfold Y.C7;rw[if_neg hq,if_neg kn];simp only[Y.al,bn,bG,bM,cW,cX,ne_eq,not_true_eq_false,not_false_eq_true,if_true,if_false,Bool.not_true,Bool.not_false,true_and,and_true,false_and,and_false,true_or,or_true,false_or,or_false,Bool.false_eq_true,decide_true,decide_false];rfl
theorem MY (n i:Int):0≤gN n i∧0≤cj n i∧gN n i+cj n i≤16384:=by
 by_cases hn:2≤n∧n≤16384
 ·by_cases hi:0≤i∧i<bq n
  ·have e:gN n i=cG n i.toNat:=by unfold gN;rw[if_neg (by omega)]
   have a1:=zd n i.toNat;have a2:=vZ hn (i:=i.toNat) (by omega)
   have a3:=ki hn hi;have a4:((i.toNat:Nat):Int)=i:=by omega
   rw[a4] at a2;rw[e];omega
  ·have e1:gN n i=0:=by unfold gN;rw[if_pos (by omega)]
   have e2:cj n i=0:=by unfold cj;rw[if_pos (by omega)]
   omega
 ·have d0:=nC (n:=n) (by omega)
  have e1:gN n i=0:=by unfold gN;rw[if_pos (by omega)]
  have e2:cj n i=0:=by unfold cj;rw[if_pos (by omega)]
  omega
theorem P6 (h:JX K p st H){f:Nat}(hf:st.left≤f){a:Int}(ha: -9223372036854775808≤a∧a≤65536)(n x d i:Int):aF (run G) 165 [pv p,cv a,cv n,cv x,cv d,cv i] H (jU K p st (Y.oU (f+1) a n x d i)):=by
 refine Ev.up (t:=λk=>Yf (run G k) k (pv p) (cv a) (cv n) (cv x) (cv d) (cv i) H) ?_ λk=>SQ ..
 simp -implicitDefEqProofs only[Yf,sS,Nat.reduceAdd];have hK:=h.1;refine Ev.call (PC _ _) ?_;rintro v H1 ⟨rfl,rfl⟩
 try simp -implicitDefEqProofs only[sS,Nat.reduceAdd]
 refine Ev.call (y7 _ _) ?_;rintro v H1 ⟨rfl,rfl⟩;have fs:=MY n i;simp -implicitDefEqProofs only[sS,Nat.reduceAdd,ga (x:=gN n i+cj n i) (by omega)]
 refine Ev.Vf h hf ha λt y l s1 H1 e ht hj hl=>?_
 try simp -implicitDefEqProofs only[sS,Nat.reduceAdd]
 have E0:Y.ah (Y.oU (f+1) a n x d i) st=Y.ah (if s1.off then pure true else Y.iM (l.length+1) l >>= λwo=>if wo.2=false then pure false else Y.ML l x d i wo.1) s1:=by
  unfold Y.oU;simp only[Y.al,bn,bG,bM,cW,cX,ne_eq,not_true_eq_false,not_false_eq_true,if_true,if_false,Bool.not_true,Bool.not_false,true_and,and_true,false_and,and_false,true_or,or_true,false_or,or_false,Bool.false_eq_true,decide_true,decide_false,Vd,sL,e];rfl
 refine Ev.nZ hj (λhq=>?_) (λhq=>?_)<;>try simp -implicitDefEqProofs only[sS,Nat.reduceAdd]
 ·exact Ev.ret (jU.of (hj.sl hK) (by rw[E0,if_pos hq];rfl))
 rw[if_neg (by simp[hq])] at E0
 refine Ev.Fc (P3 _ rfl (by omega) hj ht (λH o a=>a.2) (Nat.le_refl _)) λz zb s2 Hz ez NC=>?_
 rw[Y.aJ ez] at E0;simp -implicitDefEqProofs only[sS,Nat.reduceAdd];have zu:=NC.sl hK;have J0: ∀{s3:Y.St} {H1:aa} (x6 aI bN aM bf cC de:Value),JX K p s3 H1→Y.ah (Y.oU (f+1) a n x d i) st=Y.ah (Y.cs (Y.dr x d i) 0 z >>= λ_=>pure true) s3→Ev (λk=>vW (run G k) k [pv p,cv a,cv n,cv x,cv d,cv i,x6,aI,bN,aM,bf,cC,de,cv z] H1) λr=>jU K p st (Y.oU (f+1) a n x d i) r.1 r.2:=by
  intro s3 H1 x6 aI bN aM bf cC de hj E;simp -implicitDefEqProofs only[Mv,yN,sS,Nat.reduceAdd];refine Ev.is (kV _ _ _) ?_;refine Ev.PK (Fe hj _ _ _) λz s4 Hz ez jh=>?_
  try simp -implicitDefEqProofs only[sS,Nat.reduceAdd]
  exact Ev.ret (jU.of jh (by rw[E,Y.aJ ez];rfl))
 cases zb<;>try simp -implicitDefEqProofs only[sS,Nat.reduceAdd]
 ·exact Ev.ret (jU.of zu (by rw[E0];rfl))
 rw[if_neg (by simp)] at E0
 obtain⟨_,o1,u6,D2,hs⟩:=id NC;refine Ev.gtr (λhq=>?_) (λhq=>?_)<;>try simp -implicitDefEqProofs only[hs.len,sS,Nat.reduceAdd]
 ·refine Ev.gtr (λkn=>?_) (λkn=>?_)<;>try simp -implicitDefEqProofs only[sS,Nat.reduceAdd]
  ·refine Ev.is (pF _ _) ?_;obtain⟨i',off,b,e1,e2,e3,e4⟩:=hs.idx (j:=0) (by omega)
   obtain⟨e5,e6,_⟩:=e4 _ e2;simp only[Int.natCast_zero] at e1;simp -implicitDefEqProofs only[e1,gX,Nat.add_zero,e5,sS,Nat.reduceAdd];refine Ev.ZV (C9 zu _ _) λv u s3 Hz ew hj=>?_
   try simp -implicitDefEqProofs only[e5,sS,Nat.reduceAdd]
   refine J0 _ _ _ _ _ _ _ hj ?_;cases l with
   |nil=>simp at kn
   |cons kv l=>rw[E0];unfold Y.ML;simp only[if_pos hq];exact Y.aJ ew
  ·refine J0 _ _ _ _ _ _ _ zu ?_;have:l=[]:=List.length_eq_zero_iff.1 (by omega)
   subst this;rw[E0];rfl
 ·refine J0 _ _ _ _ _ _ _ zu ?_;rw[E0];unfold Y.ML;cases l with
  |nil=>rfl
  |cons kv l=>simp only[if_neg hq]
theorem Ho {g fx:Nat}{a t n x:Int}{s:Y.St}(h:s.off=true):Y.ah (Y.kD g a t n x fx) s=(true,s):=by
 cases fx with
 |zero=>rfl
 |succ fx=>unfold Y.kD;simp only[Y.al,bn,bG,bM,cW,cX,ne_eq,not_true_eq_false,not_false_eq_true,if_true,if_false,Bool.not_true,Bool.not_false,true_and,and_true,false_and,and_false,true_or,or_true,false_or,or_false,Bool.false_eq_true,decide_true,decide_false,h]
theorem MZ {g fx:Nat}{a t n x:Int}{s:Y.St}{k:Bool→Y.Tr β}(h:s.off=false):Y.ah (Y.kD g a t n x (fx+1) >>= k) s=Y.ah ((Y.ad (Y.wr (a+4)) 1 >>= λi=>if i≥bq n then pure true else Y.g9 >>= λb=>if b then pure true else Y.oU g t n x (bq n) i >>= λok=>if ok=false then pure false else Y.kD g a t n x fx) >>= k) s:=by
 rw[Y.al]
 conv=>lhs;unfold Y.kD
 simp only[Y.al,bn,bG,bM,cW,cX,ne_eq,not_true_eq_false,not_false_eq_true,if_true,if_false,Bool.not_true,Bool.not_false,true_and,and_true,false_and,and_false,true_or,or_true,false_or,or_false,Bool.false_eq_true,decide_true,decide_false,h,pU]
theorem By {g fx:Nat}{t n x j:Int}{s:Y.St}(h:s.off=true∨¬j<bq n):Y.ah (Y.gP g t n x fx j) s=(true,s):=by
 cases fx with
 |zero=>rfl
 |succ fx=>
  unfold Y.gP;rw[pU];by_cases h1:j<bq n
  ·rw[if_neg (by omega)]
   have h2:=h.resolve_right λk=>k h1
   simp only[Y.al,bn,bG,bM,cW,cX,ne_eq,not_true_eq_false,not_false_eq_true,if_true,if_false,Bool.not_true,Bool.not_false,true_and,and_true,false_and,and_false,true_or,or_true,false_or,or_false,Bool.false_eq_true,decide_true,decide_false,h2]
  ·rw[if_pos h1];rfl
theorem P7 {g fx:Nat}{t n x j:Int}{s:Y.St}(h:s.off=false)(h1:j<bq n):Y.ah (Y.gP g t n x (fx+1) j) s=Y.ah (Y.rd (Y.dr x (bq n) j) >>= λc=>if c≠0 then Y.gP g t n x fx (j+1) else Y.g9 >>= λb=>if b then Y.gP g t n x fx (j+1) else Y.oU g t n x (bq n) j >>= λok=>if ok=false then pure false else Y.gP g t n x fx (j+1)) s:=by
 conv=>lhs;unfold Y.gP
 rw[pU,if_neg (by omega)]
 simp only[Y.al,bn,bG,bM,cW,cX,ne_eq,not_true_eq_false,not_false_eq_true,if_true,if_false,Bool.not_true,Bool.not_false,true_and,and_true,false_and,and_false,true_or,or_true,false_or,or_false,Bool.false_eq_true,decide_true,decide_false,h]
theorem Ty (h:JX K p st H){f:Nat}(hf:st.left≤f)(a:Int){t:Int}(ht: -9223372036854775808≤t∧t≤65536)(n x:Int):aF (run G) 152 [pv p,cv a,cv t,cv n,cv x] H (jU K p st (Y.gr (f+1) a t n x)):=by
 have w4:IntKind.i64.wrap (a+4)=Y.wr (a+4):=cP _;refine Ev.up (t:=λk=>Yq (run G k) k (pv p) (cv a) (cv t) (cv n) (cv x) H) ?_ λk=>SX ..
 simp -implicitDefEqProofs only[Yq,sS,Nat.reduceAdd];refine Ev.call (kh _) ?_;rintro v Q8 ⟨rfl,rfl⟩
 try simp -implicitDefEqProofs only[sS,Nat.reduceAdd]
 have B:Y.ah (Y.gr (f+1) a t n x) st=Y.ah (Y.kD (f+1) a t n x (f+1) >>= λok=>if ok=false then pure false else Y.gP (f+1) t n x (f+1) 0) st:=rfl
 refine Ev.loop (k:=st.left) (λk vs Hx=>∃(sx:Y.St) (fx:Nat) (aC bl aN cd bN cC aI eG aM fI gn:Value),JX K p sx Hx∧k=sx.left∧sx.left≤f∧(sx.left+1≤fx∨sx.off=true)∧Y.ah (Y.gr (f+1) a t n x) st=Y.ah (Y.kD (f+1) a t n x fx >>= λok=>if ok=false then pure false else Y.gP (f+1) t n x (f+1) 0) sx∧vs=[pv p,cv a,cv t,cv n,cv x,aC,bl,aN,cv (bq n),cd,bN,cC,aI,eG,aM,fI,gn])
  (λr=>∃sx,JX K p sx r.2.2∧sx.left≤f∧((r.1= .exit 0∧Y.ah (Y.gr (f+1) a t n x) st=Y.ah (Y.gP (f+1) t n x (f+1) 0) sx)∨(r.1= .ret∧∃u,r.2.1[5]? =some (.bool u)∧Y.ah (Y.gr (f+1) a t n x) st=(u,sx)))∧∃(aC bl aN cd bN cC aI eG aM fI gn:Value),r.2.1=[pv p,cv a,cv t,cv n,cv x,aC,bl,aN,cv (bq n),cd,bN,cC,aI,eG,aM,fI,gn]) ⟨st,f+1,_,_,_,_,_,_,_,_,_,_,_,h,rfl,hf,.inl (by omega),B,rfl⟩ ?_ ?_
 ·rintro k vs Hx ⟨sx,fx,aC,bl,aN,cd,bN,cC,aI,eG,aM,fI,gn,hj,rfl,hl,qU,E,rfl⟩;simp -implicitDefEqProofs only[MD,yV,sS,Nat.reduceAdd];refine Ev.nZ hj (λhq=>?_) (λhq=>?_)<;>try simp -implicitDefEqProofs only[sS,Nat.reduceAdd]
  ·rw[Y.al,Ho hq] at E;exact Ev.ret (.inr ⟨by simp,sx,hj,hl,.inl ⟨rfl,E⟩,_,_,_,_,_,_,_,_,_,_,_,rfl⟩)
  have l4:=iU hq;have PX:sx.left+1≤fx:=qU.resolve_right (by rw[hq];simp)
  obtain⟨fy,rfl⟩: ∃fy,fx=fy+1:=⟨fx-1,by omega⟩
  rw[MZ hq] at E;simp only[Y.bind_assoc] at E;simp -implicitDefEqProofs only[w4,sS,Nat.reduceAdd];refine Ev.fe (UZ hj _ _) λi s1 H1 e1 fK=>?_
  have l5:s1.left=sx.left-1:=by
   have h:=Y.uc (.ad (Y.wr (a+4)) 1) sx;have e2:(Y.oT (.ad (Y.wr (a+4)) 1) sx).2=s1:=congrArg Prod.snd e1;rw[e2] at h;exact h
  rw[Y.aJ e1] at E
  try simp -implicitDefEqProofs only[sS,Nat.reduceAdd]
  refine Ev.geq (λh2=>?_) (λh2=>?_)<;>try simp -implicitDefEqProofs only[sS,Nat.reduceAdd]
  ·rw[if_pos h2,Y.bind_pure] at E;exact Ev.ret (.inr ⟨by simp,s1,fK,by omega,.inl ⟨rfl,E⟩,_,_,_,_,_,_,_,_,_,_,_,rfl⟩)
  rw[if_neg h2] at E;refine Ev.nZ fK (λqA=>?_) (λqA=>?_)<;>try simp -implicitDefEqProofs only[sS,Nat.reduceAdd]
  ·have E':Y.ah (Y.gr (f+1) a t n x) st=Y.ah (Y.gP (f+1) t n x (f+1) 0) s1:=by rw[E,Y.al];simp only[Y.al,bn,bG,bM,cW,cX,ne_eq,not_true_eq_false,not_false_eq_true,if_true,if_false,Bool.not_true,Bool.not_false,true_and,and_true,false_and,and_false,true_or,or_true,false_or,or_false,Bool.false_eq_true,decide_true,decide_false,qA];rfl
   exact Ev.ret (.inr ⟨by simp,s1,fK,by omega,.inl ⟨rfl,E'⟩,_,_,_,_,_,_,_,_,_,_,_,rfl⟩)
  refine Ev.MM (P6 fK (f:=f) (by omega) ht n x (bq n) i) λok s2 H2 e2 fP=>?_
  have l6:=dv e2;have E':Y.ah (Y.gr (f+1) a t n x) st=Y.ah (if ok=false then pure false else Y.kD (f+1) a t n x fy >>= λok=>if ok=false then pure false else Y.gP (f+1) t n x (f+1) 0) s2:=by
   rw[E,Y.al];simp only[Y.al,bn,bG,bM,cW,cX,ne_eq,not_true_eq_false,not_false_eq_true,if_true,if_false,Bool.not_true,Bool.not_false,true_and,and_true,false_and,and_false,true_or,or_true,false_or,or_false,Bool.false_eq_true,decide_true,decide_false,qA,e2];cases ok
   ·rfl
   ·simp only[Bool.true_eq_false,Y.al,bn,bG,bM,cW,cX,ne_eq,not_true_eq_false,not_false_eq_true,if_true,if_false,Bool.not_true,Bool.not_false,true_and,and_true,false_and,and_false,true_or,or_true,false_or,or_false,Bool.false_eq_true,decide_true,decide_false]
  cases ok<;>try simp -implicitDefEqProofs only[sS,Nat.reduceAdd]
  ·exact Ev.ret (.inr ⟨by simp,s2,fP,by omega,.inr ⟨rfl,false,rfl,E'⟩,_,_,_,_,_,_,_,_,_,_,_,rfl⟩)
  ·rw[if_neg (by decide)] at E'
   exact Ev.ret (.inl ⟨rfl,s2.left,by omega,s2,fy,_,_,_,_,_,_,_,_,_,_,_,fP,rfl,by omega,.inl (by omega),E',rfl⟩)
 ·rintro e vs H1 ⟨s0,hj,hl,he,aC,bl,aN,cd,bN,cC,aI,eG,aM,fI,gn,hv⟩;simp only at hv hj he;subst hv;rcases he with⟨rfl,E0⟩|⟨rfl,u,e1,E0⟩
  ·simp -implicitDefEqProofs only[MC,yU,sS,Nat.reduceAdd];refine Ev.loop (k:=(bq n).toNat) (λk vs Hx=>∃(i:Nat) (sx:Y.St) (fx:Nat) (aC bl aN cd bN cC eG aM fI gn:Value),JX K p sx Hx∧sx.left≤f∧(sx.left+1≤fx∨sx.off=true)∧(i:Int)+k=bq n∧Y.ah (Y.gr (f+1) a t n x) st=Y.ah (Y.gP (f+1) t n x fx i) sx∧vs=[pv p,cv a,cv t,cv n,cv x,aC,bl,aN,cv (bq n),cd,bN,cC,cv i,eG,aM,fI,gn])
    (λr=>∃sx,JX K p sx r.2.2∧((r.1= .exit 2∧Y.ah (Y.gr (f+1) a t n x) st=(true,sx))∨(r.1= .ret∧∃u,r.2.1[5]? =some (.bool u)∧Y.ah (Y.gr (f+1) a t n x) st=(u,sx)))∧∃(aC bl aN cd bN cC aI eG aM fI gn:Value),r.2.1=[pv p,cv a,cv t,cv n,cv x,aC,bl,aN,cv (bq n),cd,bN,cC,aI,eG,aM,fI,gn]) ⟨0,s0,f+1,_,_,_,_,_,_,_,_,_,_,hj,hl,.inl (by omega),by have:=pD n;omega,E0,rfl⟩ ?_ ?_
   ·rintro k vs Hx ⟨i,sx,fx,aC,bl,aN,cd,bN,cC,eG,aM,fI,gn,hj,hl,qU,hik,E,rfl⟩;have hdn:=pD n;have hw:IntKind.i64.wrap ((i:Int)+1)=((i+1:Nat):Int):=by rw[ga (by omega)];omega
    simp -implicitDefEqProofs only[MA,yS,sS,Nat.reduceAdd];refine Ev.lss (λh2=>?_) (λh2=>?_)<;>try simp -implicitDefEqProofs only[sS,Nat.reduceAdd]
    rotate_left
    ·rw[By (.inr h2)] at E;exact Ev.ret (.inr ⟨by simp,sx,hj,.inl ⟨rfl,E⟩,_,_,_,_,_,_,_,_,_,_,_,rfl⟩)
    refine Ev.nZ hj (λhq=>?_) (λhq=>?_)<;>try simp -implicitDefEqProofs only[sS,Nat.reduceAdd]
    ·rw[By (.inl hq)] at E;exact Ev.ret (.inr ⟨by simp,sx,hj,.inl ⟨rfl,E⟩,_,_,_,_,_,_,_,_,_,_,_,rfl⟩)
    have l4:=iU hq;have PX:sx.left+1≤fx:=qU.resolve_right (by rw[hq];simp)
    obtain⟨fy,rfl⟩: ∃fy,fx=fy+1:=⟨fx-1,by omega⟩
    obtain⟨k1,rfl⟩: ∃k1,k=k1+1:=⟨k-1,by omega⟩
    rw[P7 hq h2] at E;have iX: ∀{sy:Y.St} {H2:aa} (aC bl aN cd bN cC eG aM fI gn:Value),JX K p sy H2→sy.left≤sx.left-1→Y.ah (Y.gr (f+1) a t n x) st=Y.ah (Y.gP (f+1) t n x fy ((i:Int)+1)) sy→Ev (λk=>vY (run G k) k [pv p,cv a,cv t,cv n,cv x,aC,bl,aN,cv (bq n),cd,bN,cC,cv i,eG,aM,fI,gn] H2) λr=>(r.1= .normal∧∃k',k'<k1+1∧∃(i:Nat) (sx:Y.St) (fx:Nat) (aC bl aN cd bN cC eG aM fI gn:Value),JX K p sx r.2.2∧sx.left≤f∧(sx.left+1≤fx∨sx.off=true)∧(i:Int)+k'=bq n∧Y.ah (Y.gr (f+1) a t n x) st=Y.ah (Y.gP (f+1) t n x fx i) sx∧r.2.1=[pv p,cv a,cv t,cv n,cv x,aC,bl,aN,cv (bq n),cd,bN,cC,cv i,eG,aM,fI,gn])∨(r.1≠ .normal∧∃sx,JX K p sx r.2.2∧((r.1= .exit 2∧Y.ah (Y.gr (f+1) a t n x) st=(true,sx))∨(r.1= .ret∧∃u,r.2.1[5]? =some (.bool u)∧Y.ah (Y.gr (f+1) a t n x) st=(u,sx)))∧∃(aC bl aN cd bN cC aI eG aM fI gn:Value),r.2.1=[pv p,cv a,cv t,cv n,cv x,aC,bl,aN,cv (bq n),cd,bN,cC,aI,eG,aM,fI,gn]):=by
     intro sy H2 aC bl aN cd bN cC eG aM fI gn hj DZ E;simp -implicitDefEqProofs only[Mz,yR,hw,sS,Nat.reduceAdd];refine Ev.ret (.inl ⟨rfl,k1,by omega,i+1,sy,fy,_,_,_,_,_,_,_,_,_,_,hj,by omega,.inl (by omega),by omega,?_,rfl⟩)
     rw[E];congr 1
    refine Ev.is (kV _ _ _) ?_;refine Ev.fe (df hj _) λc s1 H1 e1 fK=>?_
    have l5:=du e1;rw[Y.aJ e1] at E
    try simp -implicitDefEqProofs only[sS,Nat.reduceAdd]
    refine Ev.neq (λh3=>?_) (λh3=>?_)<;>try simp -implicitDefEqProofs only[sS,Nat.reduceAdd]
    ·rw[if_pos h3] at E;exact iX _ _ _ _ _ _ _ _ _ _ fK (by omega) E
    rw[if_neg (by simp[h3])] at E
    refine Ev.nZ fK (λqA=>?_) (λqA=>?_)<;>try simp -implicitDefEqProofs only[sS,Nat.reduceAdd]
    ·have E':Y.ah (Y.gr (f+1) a t n x) st=Y.ah (Y.gP (f+1) t n x fy ((i:Int)+1)) s1:=by rw[E];simp only[Y.al,bn,bG,bM,cW,cX,ne_eq,not_true_eq_false,not_false_eq_true,if_true,if_false,Bool.not_true,Bool.not_false,true_and,and_true,false_and,and_false,true_or,or_true,false_or,or_false,Bool.false_eq_true,decide_true,decide_false,qA]
     exact iX _ _ _ _ _ _ _ _ _ _ fK (by omega) E'
    refine Ev.MM (P6 fK (f:=f) (by omega) ht n x (bq n) i) λok s2 H2 e2 fP=>?_
    have l6:=dv e2;have E':Y.ah (Y.gr (f+1) a t n x) st=Y.ah (if ok=false then pure false else Y.gP (f+1) t n x fy ((i:Int)+1)) s2:=by
     rw[E];simp only[Y.al,bn,bG,bM,cW,cX,ne_eq,not_true_eq_false,not_false_eq_true,if_true,if_false,Bool.not_true,Bool.not_false,true_and,and_true,false_and,and_false,true_or,or_true,false_or,or_false,Bool.false_eq_true,decide_true,decide_false,qA,e2]
    cases ok<;>try simp -implicitDefEqProofs only[sS,Nat.reduceAdd]
    ·exact Ev.ret (.inr ⟨by simp,s2,fP,.inr ⟨rfl,false,rfl,E'⟩,_,_,_,_,_,_,_,_,_,_,_,rfl⟩)
    ·rw[if_neg (by decide)] at E'
     exact iX _ _ _ _ _ _ _ _ _ _ fP (by omega) E'
   ·rintro e vs H2 ⟨sx,fP,he,aC,bl,aN,cd,bN,cC,aI,eG,aM,fI,gn,hv⟩;simp only at hv fP he;subst hv;rcases he with⟨rfl,E⟩|⟨rfl,u,e1,E⟩
    ·simp -implicitDefEqProofs only[MB,yT,sS,Nat.reduceAdd];exact Ev.ret (jU.of fP E)
    ·simp only[List.getElem?_cons_succ,List.getElem?_cons_zero,Option.some.injEq] at e1;subst e1;show Ev (λ_=>some (Value.bool u,H2)) _
     exact Ev.ret (jU.of fP E)
  ·simp only[List.getElem?_cons_succ,List.getElem?_cons_zero,Option.some.injEq] at e1;subst e1;show Ev (λ_=>some (Value.bool u,H1)) _
   exact Ev.ret (jU.of hj E0)
end
section
open Go.Proofs.YtgfgglponbmgmaaGreatA
variable {G:ae} {H H':aa} {o o':aj} {p c:Nat} {K:aa→aj→Prop} {t:Int} {x:Value} {l:PL} {st Nz s1:Y.St} {α β:Type}
theorem JI (h:JX K p st H){f:Nat}(hf:st.left≤f)(a:Int):aF (run G) 124 [pv p,cv a] H (jU K p st (Y.hU (f+1) a)):=by
 have w4: ∀j:Int,IntKind.i64.wrap (a+j)=Y.wr (a+j):=λj=>cP _
 refine Ev.up (t:=λk=>XY (run G k) k (pv p) (cv a) H) ?_ λk=>SB ..
 simp -implicitDefEqProofs only[XY,sS,Nat.reduceAdd];have J0: ∀{s3:Y.St} {H1:aa} {n w:Int} (tt:Int) (x4 cg cd x9 dM x8 er aC aO:Value),(-9223372036854775808≤tt∧tt≤65536)→JX K p s3 H1→s3.left≤f→Y.ah (Y.hU (f+1) a) st=Y.ah (Y.Bn (f+1) a tt n w) s3→Ev (λk=>vR (run G k) k [pv p,cv a,x4,cv tt,cg,cv w,cd,cv n,x9,dM,x8,er,aC,aO] H1) λr=>jU K p st (Y.hU (f+1) a) r.1 r.2:=by
  intro s3 H1 n w tt x4 cg cd x9 dM x8 er aC aO htt hj hl E;simp -implicitDefEqProofs only[LW,yn,sS,Nat.reduceAdd];have Vg: ∀{s4:Y.St} {H4:aa},JX K p s4 H4→Y.ah (Y.hU (f+1) a) st=Y.ah (Y.ud a w) s4→∀{k:Nat→Value→aa→Option (Value×aa)},(∀z s5 H5,Y.ah (Y.hU (f+1) a) st=(z,s5)→JX K p s5 H5→Ev (λn=>k n (.bool z) H5) λr=>jU K p st (Y.hU (f+1) a) r.1 r.2)→
    Ev (λn=>af (run G n 139 [pv p,cv (Y.wr (a+1))] H4) λg H=>af (run G n 139 [pv p,cv (Y.wr (a+2))] H) λs H=>af (run G n 59 [cv 4,cv a] H) λme H=>af (run G n 116 [pv p,g,s,me,cv w] H) λz H=>af (pS (ai Tryz.prog .neq 3 z (cv 3)) H) λz H=>k n z H) λr=>jU K p st (Y.hU (f+1) a) r.1 r.2:=by
   intro s4 H4 jh E4 k hk;refine Ev.fe (df jh _) λg s5 H5 e5 lG=>?_
   refine Ev.fe (df lG _) λs s6 H6 e6 oj=>?_
   refine Ev.is (n5 _ _) ?_;refine Ev.fe (Da oj _ _ _ _) λz s7 H7 e7 Dg=>?_
   rw[Jt];simp -implicitDefEqProofs only[sS,Nat.reduceAdd];refine hk _ s7 H7 ?_ Dg;rw[E4];unfold Y.ud;simp only[Y.al,bn,bG,bM,cW,cX,ne_eq,not_true_eq_false,not_false_eq_true,if_true,if_false,Bool.not_true,Bool.not_false,true_and,and_true,false_and,and_false,true_or,or_true,false_or,or_false,Bool.false_eq_true,decide_true,decide_false,e5,e6,e7]
   congr 1
   by_cases hz:z=3<;>simp[hz]
  have w1:=w4 1;have w2:=w4 2;unfold Y.Bn at E;refine Ev.geq (λh2=>?_) (λh2=>?_)<;>try simp -implicitDefEqProofs only[sS,Nat.reduceAdd,w1,w2]
  ·rw[if_pos h2] at E;refine Ev.is (n3 _) ?_;refine Ev.MM (Ty hj (f:=f) hl a htt n _) λok s4 H4 e4 jh=>?_
   rw[Y.aJ e4] at E
   try simp -implicitDefEqProofs only[sS,Nat.reduceAdd,w1,w2]
   cases ok<;>try simp -implicitDefEqProofs only[sS,Nat.reduceAdd,w1,w2]
   ·exact Ev.ret (jU.of jh (by rw[E];rfl))
   ·rw[if_neg (by simp)] at E
    exact Vg jh E λz s5 H5 e5 lG=>Ev.ret (jU.of lG e5)
  ·rw[if_neg h2] at E;exact Vg hj E λz s5 H5 e5 lG=>Ev.ret (jU.of lG e5)
 refine Ev.fe (df h _) λtw s1 H1 e1 fK=>?_
 have l1:=du e1
 try simp -implicitDefEqProofs only[sS,Nat.reduceAdd]
 refine Ev.is (n3 _) ?_
 try simp -implicitDefEqProofs only[sS,Nat.reduceAdd]
 refine Ev.fe (YE f fK (by omega) (qm _)) λn s2 H2 e2 fP=>?_
 have l2:=dv e2;simp -implicitDefEqProofs only[w4 3,sS,Nat.reduceAdd];refine Ev.fe (df fP _) λw s3 H3 e3 gG=>?_
 have l3:=du e3
 try simp -implicitDefEqProofs only[sS,Nat.reduceAdd]
 refine Ev.nZ gG (λhq=>?_) (λhq=>?_)<;>try simp -implicitDefEqProofs only[sS,Nat.reduceAdd]
 ·refine Ev.ret (jU.of gG ?_);unfold Y.hU;simp only[Y.al,bn,bG,bM,cW,cX,ne_eq,not_true_eq_false,not_false_eq_true,if_true,if_false,Bool.not_true,Bool.not_false,true_and,and_true,false_and,and_false,true_or,or_true,false_or,or_false,Bool.false_eq_true,decide_true,decide_false,e1,e2,e3,hq]
 refine Ev.eql (λh0=>?_) (λh0=>?_)<;>try simp -implicitDefEqProofs only[sS,Nat.reduceAdd]
 ·refine Ev.Fc (abk gG (f:=f) (by omega) (qm _) n) λx b s4 H4 e4 jh=>?_
  have l4:=dv e4
  try simp -implicitDefEqProofs only[sS,Nat.reduceAdd]
  cases b<;>try simp -implicitDefEqProofs only[sS,Nat.reduceAdd]
  ·refine Ev.ret (jU.of jh ?_);unfold Y.hU;simp only[Y.al,bn,bG,bM,cW,cX,ne_eq,not_true_eq_false,not_false_eq_true,if_true,if_false,Bool.not_true,Bool.not_false,true_and,and_true,false_and,and_false,true_or,or_true,false_or,or_false,Bool.false_eq_true,decide_true,decide_false,e1,e2,e3,hq,h0,e4]
  try simp -implicitDefEqProofs only[w4 3,sS,Nat.reduceAdd]
  refine Ev.PK (Fe jh _ _ _) λz s5 H5 e5 lG=>?_
  have l5:=dv e5
  try simp -implicitDefEqProofs only[w4 3,sS,Nat.reduceAdd]
  refine Ev.fe (df lG _) λw' s6 H6 e6 oj=>?_
  have l6:=du e6
  try simp -implicitDefEqProofs only[sS,Nat.reduceAdd]
  refine J0 _ _ _ _ _ _ _ _ _ _ (qm _) oj (by omega) ?_
  unfold Y.hU;simp only[Y.al,bn,bG,bM,cW,cX,ne_eq,not_true_eq_false,not_false_eq_true,if_true,if_false,Bool.not_true,Bool.not_false,true_and,and_true,false_and,and_false,true_or,or_true,false_or,or_false,Bool.false_eq_true,decide_true,decide_false,e1,e2,e3,hq,h0,e4,Bool.true_eq_false,e5,e6]
 ·refine J0 _ _ _ _ _ _ _ _ _ _ (qm _) gG (by omega) ?_
  unfold Y.hU;simp only[Y.al,bn,bG,bM,cW,cX,ne_eq,not_true_eq_false,not_false_eq_true,if_true,if_false,Bool.not_true,Bool.not_false,true_and,and_true,false_and,and_false,true_or,or_true,false_or,or_false,Bool.false_eq_true,decide_true,decide_false,e1,e2,e3,hq,h0]
theorem JX.box (h:JX K p st H)(cs:List Value)(T:TypeId):JX (λH' o=>K H' o∧H'.get H.length=some ⟨cs,T,1,false⟩∧o H.length= -9∧H.length<H'.length) p st (H.new ⟨cs,T,1,false⟩):=by
 obtain⟨hK,o,hr,hk⟩:=h;have f:Fr H o (H.new ⟨cs,T,1,false⟩) (o.up H.length (-9)) []:=(Fr.refl H o []).new _ _;refine⟨hK.and λH1 o1 H2 o2 a f=>?_,_,hr.fr f (by simp) (by simp) (by simp),hK _ _ _ _ hk (f.wk (by simp)),aL,aP,by rw[cD];omega⟩
 obtain⟨a1,a2,a3⟩:=a;exact⟨by rw[f.same _ a3 (by rw[a2];simp)];exact a1,by rw[f.own _ a3];exact a2,by have:=f.size;omega⟩
theorem Tz (h:JX K p st H){f:Nat}(hf:st.left≤f){a:Int}(ha: -9223372036854775808≤a∧a≤65536)(b c:Int):aF (run G) 125 [pv p,.agg #[cv a,cv b,cv c]] H (jU K p st (Y.oV (f+1) ⟨a,b,c⟩)):=by
 have w2:IntKind.i64.wrap (a+2)=a+2:=ga (by omega)
 refine Ev.up (t:=λk=>Ya (run G k) k (pv p) (.agg #[cv a,cv b,cv c]) H) ?_ λk=>SL ..
 have hK:=h.1;have hjb:=h.box [cv a,cv b,cv c] 37;have iq: ∀{s':Y.St} {H':aa},JX (λH' o=>K H' o∧H'.get H.length=some ⟨[cv a,cv b,cv c],37,1,false⟩∧o H.length= -9∧H.length<H'.length) p s' H'→JX K p s' H':=λhj=>hj.mono hK λo a=>a.1
 obtain⟨H1,e1⟩: ∃z,z=H.new ⟨[cv a,cv b,cv c],37,1,false⟩:=⟨_,rfl⟩;have g1:H1.get H.length=some ⟨[cv a,cv b,cv c],37,1,false⟩:=by rw[e1];exact aL
 rw[←e1] at hjb;have L0:=λ{H':aa} (g:H'.get H.length=some ⟨[cv a,cv b,cv c],37,1,false⟩)=>an H.length 0 H' g
 have L1:=λ{H':aa} (g:H'.get H.length=some ⟨[cv a,cv b,cv c],37,1,false⟩)=>an H.length 1 H' g
 have L2:=λ{H':aa} (g:H'.get H.length=some ⟨[cv a,cv b,cv c],37,1,false⟩)=>an H.length 2 H' g
 simp only[List.getElem?_cons_succ,List.getElem?_cons_zero] at L0 L1 L2;simp -implicitDefEqProofs only[Ya,abi, ←e1,L0 g1,L1 g1,L2 g1,sS,Nat.reduceAdd,w2];refine Ev.Tl (zh hjb _ _ _) λw Hz hj=>?_
 refine Ev.sH (nE hj) λz s1 Hz ez hj=>?_
 simp -implicitDefEqProofs only[sS,Nat.reduceAdd];refine Ev.brN (λhz=>?_) (λhz=>?_)<;>try simp -implicitDefEqProofs only[sS,Nat.reduceAdd]
 ·refine Ev.ret (jU.of (iq hj) ?_);unfold Y.oV;simp only[Y.al,bn,bG,bM,cW,cX,ne_eq,not_true_eq_false,not_false_eq_true,if_true,if_false,Bool.not_true,Bool.not_false,true_and,and_true,false_and,and_false,true_or,or_true,false_or,or_false,Bool.false_eq_true,decide_true,decide_false,ez,hz]
 obtain⟨_,o2,_,_,g2,_⟩:=id hj;simp -implicitDefEqProofs only[L0 g2,L1 g2,L2 g2,sS,Nat.reduceAdd,w2];refine Ev.is (n5 _ _) ?_;refine Ev.fe (Da hj _ _ _ _) λr s2 Hz e2 fP=>?_
 have l1:s1.left≤st.left:=dv ez;have l2:=dv e2;simp -implicitDefEqProofs only[L0 g2,L1 g2,L2 g2,sS,Nat.reduceAdd,w2];have gG:=iq fP;have E:Y.ah (Y.oV (f+1) ⟨a,b,c⟩) st=Y.ah (if r=1 then Y.hU (f+1) z else pure (decide (r≠3))) s2:=by
  unfold Y.oV;simp only[Y.al,bn,bG,bM,cW,cX,ne_eq,not_true_eq_false,not_false_eq_true,if_true,if_false,Bool.not_true,Bool.not_false,true_and,and_true,false_and,and_false,true_or,or_true,false_or,or_false,Bool.false_eq_true,decide_true,decide_false,ez,hz,e2]
 refine Ev.eql (λh1=>?_) (λh1=>?_)<;>try simp -implicitDefEqProofs only[sS,Nat.reduceAdd]
 ·rw[if_pos h1] at E;refine Ev.MM (JI gG (f:=f) (by omega) z) λok s3 H3 e3 jh=>?_
  try simp -implicitDefEqProofs only[sS,Nat.reduceAdd]
  exact Ev.ret (jU.of jh (by rw[E,e3]))
 rw[if_neg h1] at E;refine Ev.eql (λh3=>?_) (λh3=>?_)<;>try simp -implicitDefEqProofs only[sS,Nat.reduceAdd]
 ·exact Ev.ret (jU.of gG (by rw[E];simp only[Y.al,bn,bG,bM,cW,cX,ne_eq,not_true_eq_false,not_false_eq_true,if_true,if_false,Bool.not_true,Bool.not_false,true_and,and_true,false_and,and_false,true_or,or_true,false_or,or_false,Bool.false_eq_true,decide_true,decide_false,h3]))
 ·exact Ev.ret (jU.of gG (by rw[E];simp only[Y.al,bn,bG,bM,cW,cX,ne_eq,not_true_eq_false,not_false_eq_true,if_true,if_false,Bool.not_true,Bool.not_false,true_and,and_true,false_and,and_false,true_or,or_true,false_or,or_false,Bool.false_eq_true,decide_true,decide_false,h3]))
end
abbrev kk:List FuncId:=[14,25,34,45]
theorem okP:nb Tryz.prog (ov Tryz.prog)=true:=by kernel_rfl
theorem adj:nb Tryz.prog (kk++ov Tryz.prog)=true:=by kernel_rfl
theorem M5:(kk.all λk=>(gC Tryz.prog (ov Tryz.prog) Ny 2000 k [] []).any λr=>ot r.1 (.bool true))=true:=by kernel_rfl
abbrev KG:ae:=qK kk
theorem YH {f:FuncId}{ts:List TypeId}(h: ∀H args,jG H→yZ Tryz.prog H 9 ts args→∃n H',run KG n f args H=some (.bool true,H')):UU Tryz.prog f ts:=
 UU.Px kk 2000 okP adj M5 h
end Go.Proofs.YtgfgglponbmgmaaGreat.Fun
end
section
namespace Go.Proofs.YtgfgglponbmgmaaGreat.Fun
open Go Go.RowKit Go.Proofs.YtgfgglponbmgmaaGreatA.Am
section
variable {G:ae} {n:Nat}
def _root_.Go.Proofs.YtgfgglponbmgmaaGreatA.Am.aj.from (o:aj)(n:Nat)(Q:Int):aj:=λi=>if n≤i then Q else o i
theorem Dh {o:aj}{n i:Nat}{Q:Int}(h:n≤i):o.from n Q i=Q:=by simp[aj.from,h]
theorem Di {o:aj}{n i:Nat}{Q:Int}(h:i<n):o.from n Q i=o i:=by unfold aj.from;rw[if_neg (by omega)]
end
structure Ext (H H':aa):Prop where
 old: ∀j,j<H.length→H'[j]? =H[j]?
 size:H.length≤H'.length
theorem Ext.refl (H:aa):Ext H H:=⟨λ_ _=>rfl,Nat.le_refl _⟩
theorem Ext.trans {H H1 H2:aa}(a:Ext H H1)(b:Ext H1 H2):Ext H H2:=⟨λj hj=>by rw[b.old j (Nat.lt_of_lt_of_le hj a.size),a.old j hj],Nat.le_trans a.size b.size⟩
theorem Ext.new {H H1:aa}(a:Ext H H1)(c:eW):Ext H (H1.new c):=a.trans ⟨λj hj=>mR hj,by rw[cD];omega⟩
theorem Ext.put {H H1:aa}(a:Ext H H1){i:Nat}{c:eW}(h:H.length≤i):Ext H (H1.put i c):=⟨λj hj=>by rw[fF (by omega),a.old j hj],by rw[iR];exact a.size⟩
theorem Ext.fr {H H':aa}(a:Ext H H')(o:aj)(Q:Int):Fr H o H' (o.from H.length Q) []:=⟨λj hj _=>a.old j hj,λj hj=>Di hj,a.size⟩
theorem Ext.get {H H':aa}(a:Ext H H'){i:Nat}{b:eW}(h:H.get i=some b):H'.get i=some b:=by rw[eA (a.old i (ar h))];exact h
theorem Ext.of {H H':aa}{o o':aj}{ps:List Int}(f:Fr H o H' o' ps)(h: ∀i,i<H.length→o i ∉ ps):Ext H H':=⟨λj hj=>f.slot j hj (h j hj),f.size⟩
section
variable {G:ae} {H:aa} {o:aj} {q:Int} {x:Value} {l:PL} {n p:Nat}
end
structure kp where
 kind:Int
 key:Int
 value:Int
structure eQ where
 Fa:Int
 found:Bool
 key:Int
 value:Int
 n:Int
 list:PL
abbrev jx (op:kp):Value:=.agg #[cv op.kind,cv op.key,cv op.value]
abbrev gz (r:eQ)(s:Value):Value:=.agg #[cv r.Fa,.bool r.found,cv r.key,cv r.value,cv r.n,s]
def bS:eQ:=⟨0,false,0,0,0,[]⟩
def M6 (t:Int×Int×Bool):eQ:=if t.2.2 then⟨0,true,t.1,t.2.1,0,[]⟩ else bS
def lO (w:Int):eQ:=⟨w,false,0,0,0,[]⟩
theorem Dj (op:kp)(H:aa):dL 39 (jx op) H=some (pv H.length,H.new ⟨[cv op.kind,cv op.key,cv op.value],39,1,false⟩):=by
 simp[dL,Value.cells,aD,aV]
theorem Rf {H:aa}{b:Nat}{op:kp}{t:TypeId}(h:H.get b=some ⟨[cv op.kind,cv op.key,cv op.value],t,1,false⟩):dh 3 (pv b) H=some (jx op):=by
 simp[dh,aR,h]
theorem ug (b:Nat)(r:eQ){s:Value}{a:Option Addr}{m c:Nat}(es:s= .slice a m c){cs:List Value}{t:TypeId}(H:aa)(h:H.get b=some ⟨cs,t,1,false⟩)(hl:cs.length=6):
  bE 6 (pv b) (gz r s) H=some (undef,H.put b ⟨[cv r.Fa,.bool r.found,cv r.key,cv r.value,cv r.n,s],t,1,false⟩):=by
 subst es;obtain⟨c0,c1,c2,c3,c4,c5,rfl⟩: ∃c0 c1 c2 c3 c4 c5,cs=[c0,c1,c2,c3,c4,c5]:=by
  match cs,hl with
  | [c0,c1,c2,c3,c4,c5],_=>exact⟨c0,c1,c2,c3,c4,c5,rfl⟩
 simp[bE,bZ,h,Value.cells,known,aD,dz]
theorem pV (b:Nat)(r:eQ){s:Value}{t:TypeId}(H:aa)(h:H.get b=some ⟨[cv r.Fa,.bool r.found,cv r.key,cv r.value,cv r.n,s],t,1,false⟩):dh 6 (pv b) H=some (gz r s):=by
 simp[dh,aR,h]
abbrev aA:Value:=.slice none 0 0
theorem Dk:aE Tryz.prog 47 []=some (gz bS aA):=by kernel_rfl
theorem YI (k v:Int):aE Tryz.prog 47 [(1,.bool true),(2,.agg #[cv k,cv v])]=some (gz (M6 (k,v,true)) aA):=by kernel_rfl
theorem M7 (w:Int):aE Tryz.prog 47 [(0,cv w)]=some (gz (lO w) aA):=by kernel_rfl
theorem abl (a:Option Addr)(m c:Nat):aE Tryz.prog 47 [(4,.slice a m c)]=some (.agg #[cv 0,.bool false,cv 0,cv 0,cv 0,.slice a m c]):=by kernel_rfl
theorem adk (w:Int):aE Tryz.prog 47 [(3,cv w)]=some (gz ⟨0,false,0,0,w,[]⟩ aA):=by kernel_rfl
theorem uh (t:Int×Int×Bool):(M6 t).list=[]:=by unfold M6;split<;>rfl
section
variable {G:ae} {H:aa} {o:aj} {q:Int} {x:Value} {l:PL} {n p:Nat}
end
end Go.Proofs.YtgfgglponbmgmaaGreat.Fun
end
