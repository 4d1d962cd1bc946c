/- Texts of the proof of helpPlays_holds, put together by a small program of ours (names shortened, spaces taken out). No condition beyond the given statement. -/
import Derived.Test.YtgfgglponbmgmaaGreatHPL11
import Derived.Test.YtgfgglponbmgmaaGreatHPL15
import Derived.Test.YtgfgglponbmgmaaGreatHPL12
import Derived.Test.YtgfgglponbmgmaaGreatHPL16
import Derived.Test.YtgfgglponbmgmaaGreatHPL17
import Derived.Test.YtgfgglponbmgmaaGreatHPL22
import Derived.Test.YtgfgglponbmgmaaGreatHPL24
import Derived.Test.YtgfgglponbmgmaaGreatHPL13
set_option linter.unusedVariables false
set_option linter.unusedSimpArgs false
set_option linter.unnecessarySimpa false
noncomputable section
section
namespace Go.Proofs.YtgfgglponbmgmaaGreat.Fun
open Go Go.RowKit Go.Proofs.YtgfgglponbmgmaaGreatA.Am
set_option maxRecDepth 10000
section
open Go.Proofs.YtgfgglponbmgmaaGreatA
variable {G:ae} {H H':aa} {o o':aj} {p:Nat} {K:aa→aj→Prop} {st Nz s1:Y.St} {α β:Type}
theorem To (x:Int):IntKind.u64.wrap x=x%18446744073709551616:=by simp[IntKind.wrap,IntKind.bits,IntKind.signed]
theorem Hj {x:Int}(h:0≤x∧x<18446744073709551616):IntKind.u64.wrap x=x:=by rw[To];omega
theorem adh {x:Int}(h0:0≤x)(h1:x<2^63):Go.bits .and .i64 x 1=x%2:=
 bits_mask .i64 63 (by decide) (λn _ h=>by rw[IntKind.wrap_i64];omega) 1 (by decide) x h0 h1
theorem adi (t:TypeId)(a b:Int):ai Tryz.prog .eql t (uv a) (uv b)=some (.bool (decide (a=b))):=by
 show some (Value.bool (a==b))=_
 congr 2
theorem abb (t:TypeId)(a b:Int):ai Tryz.prog .geq t (uv a) (uv b)=some (.bool (decide (a≥b))):=rfl
theorem Vb (a b:Int):aF (run G) 162 [cv a,cv b] H (Is H (uv (Y.vl a b))):=by
 refine Ev.up (t:=λn=>Pe (run G n) n (cv a) (cv b) H) ?_ λn=>I3 ..
 simp -implicitDefEqProofs only[Pe,sS,Nat.reduceAdd,Ti,vm];refine Ev.lss (λh1=>?_) (λh1=>?_)<;>try simp -implicitDefEqProofs only[sS,Nat.reduceAdd,Ti,vm]
 ·exact Ev.ret ⟨by simp[Y.vl,h1],rfl⟩
 ·refine Ev.ret ⟨?_,rfl⟩;refine congrArg uv ?_;rw[To,To,To];unfold Y.vl;rw[if_neg (by omega)];omega
theorem Dd (a b:Int):0≤Y.vl a b∧Y.vl a b<18446744073709551616:=by unfold Y.vl;split<;>omega
theorem Tp {a b:Int}(c:Int)(ha:0≤a∧a<18446744073709551616)(hb:0≤b∧b<18446744073709551616):aF (run G) 161 [uv a,uv b,cv c] H (Is H (cv (Y.kC a b c))):=by
 refine Ev.up (t:=λn=>O4 (run G n) n (uv a) (uv b) (cv c) H) ?_ λn=>IW ..
 simp -implicitDefEqProofs only[O4,sS,Nat.reduceAdd,adi];by_cases h0:b=0
 ·simp -implicitDefEqProofs only[h0,decide_true,sS,Nat.reduceAdd];exact Ev.ret ⟨by simp[Y.kC],rfl⟩
 simp -implicitDefEqProofs only[h0,decide_false,sS,Nat.reduceAdd];refine Ev.lss (λh1=>?_) (λh1=>?_)<;>try simp -implicitDefEqProofs only[sS,Nat.reduceAdd]
 ·exact Ev.ret ⟨by simp[Y.kC,h1],rfl⟩
 refine Ev.gtr (λh2=>?_) (λh2=>?_)<;>try simp -implicitDefEqProofs only[sS,Nat.reduceAdd,aaT]
 ·exact Ev.ret ⟨by simp[Y.kC,h2],rfl⟩
 have hS:Y.kC a b c=Y.ct (if b<a then b else a) b c 17 0 0:=by
  unfold Y.kC;rw[if_neg (by omega)]
  congr 1;split<;>split<;>omega
 have hr:0≤(if b<a then b else a)∧(if b<a then b else a)≤b:=by split<;>omega
 rw[hS];generalize (if b<a then b else a)=r0 at hr
 refine Ev.loop (k:=17) (λk vs Hx=>∃(q r:Int) (d24 d33 d49 d54:Value),Hx=H∧k≤17∧0≤r∧r<b∧0≤q∧q+2≤2*2^(17-k)∧Y.ct r0 b c k q r=Y.ct r0 b c 17 0 0∧vs=[uv r0,uv b,cv c,cv 0,.bool false,cv ((k:Int)-1),d24,cv q,uv r,d33,d49,d54])
  (λr=>r.1= .exit 0∧r.2.2=H∧∃(d8 d9 d24 d33 d49 d54:Value),r.2.1=[uv r0,uv b,cv c,cv 0,.bool false,d9,d24,cv (Y.ct r0 b c 17 0 0),d8,d33,d49,d54]) ⟨0,0,_,_,_,_,rfl,by omega,by omega,by omega,by omega,by decide,rfl,rfl⟩ ?_ ?_
 ·rintro k vs Hx ⟨q,r,d24,d33,d49,d54,rfl,hk,r0',r1',q0,q1,hE,rfl⟩;simp -implicitDefEqProofs only[Be,sj,sS,Nat.reduceAdd];refine Ev.geq (λhq=>?_) (λhq=>?_)<;>try simp -implicitDefEqProofs only[sS,Nat.reduceAdd,vm]
  ·obtain⟨j,rfl⟩: ∃j,k=j+1:=⟨k-1,by omega⟩
   have eb:((j+1:Nat):Int)-1=(j:Int):=by omega
   have hw:IntKind.i64.wrap ((j:Int)-1)=(j:Int)-1:=ga (by omega)
   have qb:q+2≤262144:=by
    have:(2:Int)^(17-(j+1))≤65536:=by
     have h:2^(17-(j+1))≤2^16:=Nat.pow_le_pow_right (by decide) (by omega)
     have e:((2^(17-(j+1)):Nat):Int)=2^(17-(j+1)):=Int.natCast_pow 2 _;have h2:(2:Nat)^16=65536:=by decide
     omega
    omega
   have qn: ∀q',q'≤2*q+2→q'+2≤2*2^(17-j):=by
    intro q' h;have:(2:Int)^(17-j)=2^(17-(j+1))*2:=by
     rw[←Int.pow_succ];congr 1;omega
    omega
   have iX: ∀(q r:Int) (d24 d33 d49 d54:Value),0≤r→r<b→0≤q→q+2≤2*2^(17-j)→Y.ct r0 b c j q r=Y.ct r0 b c 17 0 0→Ev (λn=>pB (run G n) n [uv r0,uv b,cv c,cv 0,.bool false,cv ((j+1:Nat)-1),d24,cv q,uv r,d33,d49,d54] Hx) λr=>(r.1= .normal∧∃k',k'<j+1∧∃(q r':Int) (d24 d33 d49 d54:Value),r.2.2=Hx∧k'≤17∧0≤r'∧r'<b∧0≤q∧q+2≤2*2^(17-k')∧Y.ct r0 b c k' q r'=Y.ct r0 b c 17 0 0∧r.2.1=[uv r0,uv b,cv c,cv 0,.bool false,cv ((k':Int)-1),d24,cv q,uv r',d33,d49,d54])∨(r.1≠ .normal∧(r.1= .exit 0∧r.2.2=Hx∧∃(d8 d9 d24 d33 d49 d54:Value),r.2.1=[uv r0,uv b,cv c,cv 0,.bool false,d9,d24,cv (Y.ct r0 b c 17 0 0),d8,d33,d49,d54])):=by
    intro q r d24 d33 d49 d54 a1 a2 a3 a4 a5;simp -implicitDefEqProofs only[Bc,sg,sS,Nat.reduceAdd,eb,hw];exact Ev.ret (.inl ⟨rfl,j,by omega,q,r,_,_,_,_,rfl,by omega,a1,a2,a3,a4,a5,rfl⟩)
   have hc:c/2^j=c.fdiv (2^min ((j:Int)).toNat 64):=by
    have:min ((j:Int)).toNat 64=j:=by omega
    rw[this,Int.fdiv_eq_ediv_of_nonneg _ (by exact Int.le_of_lt (Int.pow_pos (by decide)))]
   have hcb:0≤c/2^j∧c/2^j≤65536:=by
    have hp:(0:Int)<2^j:=Int.pow_pos (by decide)
    have h1:0≤c/2^j:=Int.ediv_nonneg (by omega) (by omega)
    have h2:c/2^j≤c:=Int.ediv_le_self _ (by omega)
    omega
   have h2: ∀(q r:Int) (d24 d33 d49 d54:Value),0≤r→r<b→0≤q→q+1≤262144*2→(∀q',q'≤q+1→q'+2≤2*2^(17-j))→
     (if c/2^j%2=0 then Y.ct r0 b c j q r else if r0≥b-r then Y.ct r0 b c j (q+1) (r-(b-r0)) else Y.ct r0 b c j q (r+r0))=Y.ct r0 b c 17 0 0→
     Ev (λn=>si (run G n) n [uv r0,uv b,cv c,cv 0,.bool false,cv ((j+1:Nat)-1),d24,cv q,uv r,d33,d49,d54] Hx) λr=>(r.1= .normal∧∃k',k'<j+1∧∃(q r':Int) (d24 d33 d49 d54:Value),r.2.2=Hx∧k'≤17∧0≤r'∧r'<b∧0≤q∧q+2≤2*2^(17-k')∧Y.ct r0 b c k' q r'=Y.ct r0 b c 17 0 0∧r.2.1=[uv r0,uv b,cv c,cv 0,.bool false,cv ((k':Int)-1),d24,cv q,uv r',d33,d49,d54])∨(r.1≠ .normal∧(r.1= .exit 0∧r.2.2=Hx∧∃(d8 d9 d24 d33 d49 d54:Value),r.2.1=[uv r0,uv b,cv c,cv 0,.bool false,d9,d24,cv (Y.ct r0 b c 17 0 0),d8,d33,d49,d54])):=by
    intro q r d24 d33 d49 d54 a1 a2 a3 a4 a5 a6;simp -implicitDefEqProofs only[Bd,sh,sS,Nat.reduceAdd,eb,PB j (by omega),aaU,Jw, ←hc,adh hcb.1 (by omega)]
    refine Ev.eql (λhq=>?_) (λhq=>?_)<;>try simp -implicitDefEqProofs only[sS,Nat.reduceAdd,vm,abb]
    ·rw[if_pos hq] at a6;have:=iX q r d24 d33 (.bool true) d54 a1 a2 a3 (a5 q (by omega)) a6
     rw[eb] at this;exact this
    rw[if_neg hq] at a6;have e1:IntKind.u64.wrap (b-r)=b-r:=Hj (by omega)
    rw[e1];refine Ev.brD (λh3=>?_) (λh3=>?_)<;>try simp -implicitDefEqProofs only[sS,Nat.reduceAdd,vm,Th]
    ·rw[if_pos h3] at a6;have e2:IntKind.i64.wrap (q+1)=q+1:=ga (by omega)
     have e3:IntKind.u64.wrap (r-IntKind.u64.wrap (b-r0))=r-(b-r0):=by rw[Hj (x:=b-r0) (by omega),Hj (by omega)]
     rw[e2,e3];have:=iX (q+1) (r-(b-r0)) d24 d33 (.bool false) (.bool (decide (r0≥b-r))) (by omega) (by omega) (by omega) (a5 _ (by omega)) a6
     rw[eb] at this;exact this
    ·rw[if_neg h3] at a6;have e3:IntKind.u64.wrap (r+r0)=r+r0:=Hj (by omega)
     rw[e3];have:=iX q (r+r0) d24 d33 (.bool false) (.bool (decide (r0≥b-r))) (by omega) (by omega) a3 (a5 q (by omega)) a6
     rw[eb] at this;exact this
   have UC:(let q1:=if r≥b-r then 2*q+1 else 2*q
    let r1:=if r≥b-r then r-(b-r) else r+r
    if c/2^j%2=0 then Y.ct r0 b c j q1 r1 else if r0≥b-r1 then Y.ct r0 b c j (q1+1) (r1-(b-r0)) else Y.ct r0 b c j q1 (r1+r0))=Y.ct r0 b c 17 0 0:=hE
   have e0:IntKind.i64.wrap (2*q)=2*q:=ga (by omega)
   have e1:IntKind.u64.wrap (b-r)=b-r:=Hj (by omega)
   simp -implicitDefEqProofs only[abb,e1,e0,sS,Nat.reduceAdd];refine Ev.brD (λh3=>?_) (λh3=>?_)<;>try simp -implicitDefEqProofs only[sS,Nat.reduceAdd,vm,Th]
   ·have e2:IntKind.i64.wrap (2*q+1)=2*q+1:=ga (by omega)
    have e3:IntKind.u64.wrap (r-(b-r))=r-(b-r):=Hj (by omega)
    simp only[e0,e1,e2,e3];simp only[if_pos h3] at UC;exact h2 _ _ _ _ _ _ (by omega) (by omega) (by omega) (by omega) (λq' h=>qn q' (by omega)) UC
   ·have e3:IntKind.u64.wrap (r+r)=r+r:=Hj (by omega)
    simp only[e0,e3];simp only[if_neg h3] at UC;exact h2 _ _ _ _ _ _ (by omega) (by omega) (by omega) (by omega) (λq' h=>qn q' (by omega)) UC
  ·have:k=0:=by omega
   subst this;rw[←hE];exact Ev.ret (.inr ⟨by simp,rfl,rfl,_,_,_,_,_,_,rfl⟩)
 ·rintro e vs Hx ⟨he,rfl,d8,d9,d24,d33,d49,d54,rfl⟩;simp only at he;subst he;simp -implicitDefEqProofs only[Bf,sk,sS,Nat.reduceAdd];exact Ev.ret ⟨rfl,rfl⟩
theorem PU {a b c:Int}(ha:0≤a)(hb:0≤b)(hc:1≤c):Y.kC a b c≤c:=Y.Bt ha hb hc
theorem Tq (a b c d:Int):aF (run G) 143 [cv a,cv b,cv c,cv d] H (Is H (cv (Y.iC a b c d))):=by
 refine Ev.up (t:=λn=>Pp (run G n) n (cv a) (cv b) (cv c) (cv d) H) ?_ λn=>Ji ..
 simp -implicitDefEqProofs only[Pp,sS,Nat.reduceAdd];repeat' (first| (refine Ev.ret ⟨?_,rfl⟩;refine congrArg cv ?_;unfold Y.iC;rw[if_pos (by omega)];done)| ((with_reducible first|refine Ev.lss (λhq=>?_) (λhq=>?_)|refine Ev.gtr (λhq=>?_) (λhq=>?_)|refine Ev.geq (λhq=>?_) (λhq=>?_))<;>try simp -implicitDefEqProofs only[sS,Nat.reduceAdd]))
 all_goals
  refine Ev.is (Vb _ _) ?_;refine Ev.is (Vb _ _) ?_
  try simp -implicitDefEqProofs only[sS,Nat.reduceAdd]
  have e1:IntKind.i64.wrap (d-1)=d-1:=ga (by omega)
  rw[e1];refine Ev.is (Tp _ (Dd _ _) (Dd _ _)) ?_
  try simp -implicitDefEqProofs only[sS,Nat.reduceAdd]
  refine Ev.ret ⟨?_,rfl⟩;refine congrArg cv ?_;unfold Y.iC;rw[if_neg (by omega)]
  have g1:=(Dd a c).1;have g2:=(Dd a b).1;have:=PU (c:=d-1) g1 g2 (by omega)
  have:=Y.MQ (part:=Y.vl a c) (whole:=Y.vl a b) (N:=d-1)
  rw[ga (by omega)]
theorem MS {n k i:Int}{f:Nat}{s:Y.St}{g:Int→Y.Tr β}(h:s.off=true∨¬i>1):Y.ah (Y.mS n k f i >>= g) s=Y.ah (g 1) s:=by
 cases f with
 |zero=>rfl
 |succ f=>
  rw[Y.al];unfold Y.mS;by_cases h1:i>1
  ·rw[if_pos h1];have h2:=h.resolve_right (λx=>x h1)
   simp only[Y.al,bn,bG,bM,cW,cX,ne_eq,not_true_eq_false,not_false_eq_true,if_true,if_false,Bool.not_true,Bool.not_false,true_and,and_true,false_and,and_false,true_or,or_true,false_or,or_false,Bool.false_eq_true,decide_true,decide_false,h2]
  ·rw[if_neg h1];rfl
theorem PV {n k i:Int}{f:Nat}{s:Y.St}{g:Int→Y.Tr β}(h:s.off=false)(h1:i>1):Y.ah (Y.mS n k (f+1) i >>= g) s=Y.ah (Y.rd (Y.lM n i) >>= λz=>(if z≤k then pure i else Y.mS n k f (i-1)) >>= g) s:=by
 rw[Y.al]
 conv=>lhs;unfold Y.mS
 rw[if_pos h1];simp only[Y.al,bn,bG,bM,cW,cX,ne_eq,not_true_eq_false,not_false_eq_true,if_true,if_false,Bool.not_true,Bool.not_false,true_and,and_true,false_and,and_false,true_or,or_true,false_or,or_false,Bool.false_eq_true,decide_true,decide_false,h]
theorem Tt {n k m i:Int}{f:Nat}{s:Y.St}{g:Int→Y.Tr β}(h:s.off=true∨¬i<m):Y.ah (Y.MK n k m f i >>= g) s=Y.ah (g (m-1)) s:=by
 cases f with
 |zero=>rfl
 |succ f=>
  rw[Y.al];unfold Y.MK;by_cases h1:i<m
  ·rw[if_pos h1];have h2:=h.resolve_right (λx=>x h1)
   simp only[Y.al,bn,bG,bM,cW,cX,ne_eq,not_true_eq_false,not_false_eq_true,if_true,if_false,Bool.not_true,Bool.not_false,true_and,and_true,false_and,and_false,true_or,or_true,false_or,or_false,Bool.false_eq_true,decide_true,decide_false,h2]
  ·rw[if_neg h1];rfl
theorem YD {n k m i:Int}{f:Nat}{s:Y.St}{g:Int→Y.Tr β}(h:s.off=false)(h1:i<m):Y.ah (Y.MK n k m (f+1) i >>= g) s=Y.ah (Y.rd (Y.lM n i) >>= λz=>(if z>k then pure (i-1) else Y.MK n k m f (i+1)) >>= g) s:=by
 rw[Y.al]
 conv=>lhs;unfold Y.MK
 rw[if_pos h1];simp only[Y.al,bn,bG,bM,cW,cX,ne_eq,not_true_eq_false,not_false_eq_true,if_true,if_false,Bool.not_true,Bool.not_false,true_and,and_true,false_and,and_false,true_or,or_true,false_or,or_false,Bool.false_eq_true,decide_true,decide_false,h]
theorem Hl (h:JX K p st H){a k d z:Int}{f:Nat}{i:Int}(hz:2≤z∧z≤65536)(hi:0≤i∧i≤65536)(hf:st.left≤f){t:Y.Tr (Int×Int)}{MT:Y.St}(E:Y.ah t MT=Y.ah (Y.mS a k f i >>= λi=>pure (d,i)) st){x6 x7 bl aC bV bN aO cM aN dD fM iI fE aM fL dW:Value}:
  Ev (λn=>cl (iter n (vB (run G n) n) [pv p,cv a,cv k,x6,x7,cv d,cv z,bl,aC,bV,bN,aO,cM,aN,dD,fM,(cv i),iI,fE,aM,fL,dW] H) (dK 0 (dS (vC (run G n) n) (dS (Ct (run G n) n) (eh Tryz.prog [.tmp 6,.tmp 7] [0,1,2,6,7,8,9,21,10,29,32,11,41,12,56,68,13,79,88,14,103,112]))))) λr=>kl K p MT t r.1 r.2:=by
 refine Ev.loop (k:=st.left) (λk' vs Hx=>∃(i:Int) (sx:Y.St) (f:Nat) (x6 x7 bl aC bV bN aO cM aN dD fM iI fE aM fL dW:Value),vs=[pv p,cv a,cv k,x6,x7,cv d,cv z,bl,aC,bV,bN,aO,cM,aN,dD,fM,cv i,iI,fE,aM,fL,dW]∧JX K p sx Hx∧k'=sx.left∧sx.left≤f∧(0≤i∧i≤65536)∧Y.ah t MT=Y.ah (Y.mS a k f i >>= λi=>pure (d,i)) sx)
  (λr=>∃(sx:Y.St) (u:Int),JX K p sx r.2.2∧Y.ah t MT=((d,u),sx)∧((r.1= .exit 0∧u=1)∨(r.1= .ret∧r.2.1[3]? =some (cv d)∧r.2.1[4]? =some (cv u)))∧∃(x6 x7 bl aC bV bN aO cM aN dD fM aI iI fE aM fL dW:Value),r.2.1=[pv p,cv a,cv k,x6,x7,cv d,cv z,bl,aC,bV,bN,aO,cM,aN,dD,fM,aI,iI,fE,aM,fL,dW]) ⟨i,st,f,_,_,_,_,_,_,_,_,_,_,_,_,_,_,_,_,rfl,h,rfl,hf,hi,E⟩ ?_ ?_
 ·rintro k' vs Hx ⟨i,sx,f,x6,x7,bl,aC,bV,bN,aO,cM,aN,dD,fM,iI,fE,aM,fL,dW,rfl,hj,rfl,hf,hi,E⟩;simp -implicitDefEqProofs only[A5,rT,sS,Nat.reduceAdd];have out:(sx.off=true∨¬i>1)→Y.ah t MT=((d,1),sx):=by
   intro hn;rw[E,MS hn];rfl
  refine Ev.gtr (λh1=>?_) (λh1=>?_)<;>try simp -implicitDefEqProofs only[sS,Nat.reduceAdd]
  ·refine Ev.nZ hj (λhq=>?_) (λhq=>?_)<;>try simp -implicitDefEqProofs only[sS,Nat.reduceAdd]
   ·exact Ev.ret (.inr ⟨by simp,sx,_,hj,out (.inl hq),.inl ⟨rfl,rfl⟩,_,_,_,_,_,_,_,_,_,_,_,_,_,_,_,_,_,rfl⟩)
   refine Ev.is (pF _ _) ?_;refine Ev.fe (df hj _) λq s1 H1 e1 fK=>?_
   have l1:=du e1;have l2:=iU hq;obtain⟨fy,rfl⟩: ∃fy,f=fy+1:=⟨f-1,by omega⟩
   rw[PV hq h1,Y.al,e1] at E
   try simp -implicitDefEqProofs only[sS,Nat.reduceAdd]
   refine Ev.leq (λh2=>?_) (λh2=>?_)<;>try simp -implicitDefEqProofs only[sS,Nat.reduceAdd]
   ·try rw[ga (x:=i-1) (by omega)]
    refine Ev.ret (.inr ⟨by simp,s1,i,fK,?_,.inr ⟨rfl,rfl,rfl⟩,_,_,_,_,_,_,_,_,_,_,_,_,_,_,_,_,_,rfl⟩)
    rw[E];simp only[if_pos h2,Y.al,bn,bG,bM,cW,cX,ne_eq,not_true_eq_false,not_false_eq_true,if_true,if_false,Bool.not_true,Bool.not_false,true_and,and_true,false_and,and_false,true_or,or_true,false_or,or_false,Bool.false_eq_true,decide_true,decide_false]
   ·rw[ga (x:=i-1) (by omega)]
    refine Ev.ret (.inl ⟨rfl,s1.left,by omega,i-1,s1,fy,_,_,_,_,_,_,_,_,_,_,_,_,_,_,_,_,rfl,fK,rfl,by omega,by omega,?_⟩)
    rw[E];simp only[if_neg h2]
  ·exact Ev.ret (.inr ⟨by simp,sx,_,hj,out (.inr h1),.inl ⟨rfl,rfl⟩,_,_,_,_,_,_,_,_,_,_,_,_,_,_,_,_,_,rfl⟩)
 ·rintro e vs H1 ⟨sx,u,hj,E,hu,x6,x7,bl,aC,bV,bN,aO,cM,aN,dD,fM,aI,iI,fE,aM,fL,dW,hv⟩;simp only at hv hu hj;subst hv;rcases hu with⟨rfl,rfl⟩|⟨rfl,e1,e2⟩
  ·simp -implicitDefEqProofs only[A7,rU,sS,Nat.reduceAdd];exact Ev.ret (kl.of hj E)
  ·simp only[List.getElem?_cons_succ,List.getElem?_cons_zero,Option.some.injEq] at e1 e2;subst e1 e2;show Ev (λ_=>some (Value.tuple #[cv d,cv u],H1)) _
   exact Ev.ret (kl.of hj E)
theorem Fm (h:JX K p st H){a k d z:Int}{f:Nat}{i:Int}(hz:2≤z∧z≤65536)(hi:1≤i∧i≤65537)(hf:st.left≤f){t:Y.Tr (Int×Int)}{MT:Y.St}(E:Y.ah t MT=Y.ah (Y.MK a k z f i >>= λi=>pure (d,i)) st){x6 x7 bl aC bV bN aO cM aN dD fM aI iI fE fL dW:Value}:
  Ev (λn=>cl (iter n (vD (run G n) n) [pv p,cv a,cv k,x6,x7,cv d,cv z,bl,aC,bV,bN,aO,cM,aN,dD,fM,aI,iI,fE,(cv i),fL,dW] H) (dK 2 (dS (vE (run G n) n) (eh Tryz.prog [.tmp 6,.tmp 7] [0,1,2,6,7,8,9,21,10,29,32,11,41,12,56,68,13,79,88,14,103,112])))) λr=>kl K p MT t r.1 r.2:=by
 refine Ev.loop (k:=st.left) (λk' vs Hx=>∃(i:Int) (sx:Y.St) (f:Nat) (x6 x7 bl aC bV bN aO cM aN dD fM aI iI fE fL dW:Value),vs=[pv p,cv a,cv k,x6,x7,cv d,cv z,bl,aC,bV,bN,aO,cM,aN,dD,fM,aI,iI,fE,cv i,fL,dW]∧JX K p sx Hx∧k'=sx.left∧sx.left≤f∧(1≤i∧i≤65537)∧Y.ah t MT=Y.ah (Y.MK a k z f i >>= λi=>pure (d,i)) sx)
  (λr=>∃(sx:Y.St) (u:Int),JX K p sx r.2.2∧Y.ah t MT=((d,u),sx)∧((r.1= .exit 2∧u=z-1)∨(r.1= .ret∧r.2.1[3]? =some (cv d)∧r.2.1[4]? =some (cv u)))∧∃(x6 x7 bl aC bV bN aO cM aN dD fM aI iI fE aM fL dW:Value),r.2.1=[pv p,cv a,cv k,x6,x7,cv d,cv z,bl,aC,bV,bN,aO,cM,aN,dD,fM,aI,iI,fE,aM,fL,dW]) ⟨i,st,f,_,_,_,_,_,_,_,_,_,_,_,_,_,_,_,_,rfl,h,rfl,hf,hi,E⟩ ?_ ?_
 ·rintro k' vs Hx ⟨i,sx,f,x6,x7,bl,aC,bV,bN,aO,cM,aN,dD,fM,aI,iI,fE,fL,dW,rfl,hj,rfl,hf,hi,E⟩;simp -implicitDefEqProofs only[A8,rV,sS,Nat.reduceAdd];have out:(sx.off=true∨¬i<z)→Y.ah t MT=((d,z-1),sx):=by
   intro hn;rw[E,Tt hn];rfl
  refine Ev.lss (λh1=>?_) (λh1=>?_)<;>try simp -implicitDefEqProofs only[sS,Nat.reduceAdd]
  ·refine Ev.nZ hj (λhq=>?_) (λhq=>?_)<;>try simp -implicitDefEqProofs only[sS,Nat.reduceAdd]
   ·exact Ev.ret (.inr ⟨by simp,sx,_,hj,out (.inl hq),.inl ⟨rfl,rfl⟩,_,_,_,_,_,_,_,_,_,_,_,_,_,_,_,_,_,rfl⟩)
   refine Ev.is (pF _ _) ?_;refine Ev.fe (df hj _) λq s1 H1 e1 fK=>?_
   have l1:=du e1;have l2:=iU hq;obtain⟨fy,rfl⟩: ∃fy,f=fy+1:=⟨f-1,by omega⟩
   rw[YD hq h1,Y.al,e1] at E
   try simp -implicitDefEqProofs only[sS,Nat.reduceAdd]
   refine Ev.gtr (λh2=>?_) (λh2=>?_)<;>try simp -implicitDefEqProofs only[sS,Nat.reduceAdd]
   ·try rw[ga (x:=i-1) (by omega)]
    refine Ev.ret (.inr ⟨by simp,s1,i-1,fK,?_,.inr ⟨rfl,rfl,rfl⟩,_,_,_,_,_,_,_,_,_,_,_,_,_,_,_,_,_,rfl⟩)
    rw[E];simp only[if_pos h2,Y.al,bn,bG,bM,cW,cX,ne_eq,not_true_eq_false,not_false_eq_true,if_true,if_false,Bool.not_true,Bool.not_false,true_and,and_true,false_and,and_false,true_or,or_true,false_or,or_false,Bool.false_eq_true,decide_true,decide_false]
   ·rw[ga (x:=i+1) (by omega)]
    refine Ev.ret (.inl ⟨rfl,s1.left,by omega,i+1,s1,fy,_,_,_,_,_,_,_,_,_,_,_,_,_,_,_,_,rfl,fK,rfl,by omega,by omega,?_⟩)
    rw[E];simp only[if_neg h2]
  ·exact Ev.ret (.inr ⟨by simp,sx,_,hj,out (.inr h1),.inl ⟨rfl,rfl⟩,_,_,_,_,_,_,_,_,_,_,_,_,_,_,_,_,_,rfl⟩)
 ·rintro e vs H1 ⟨sx,u,hj,E,hu,x6,x7,bl,aC,bV,bN,aO,cM,aN,dD,fM,aI,iI,fE,aM,fL,dW,hv⟩;simp only at hv hu hj;subst hv;rcases hu with⟨rfl,rfl⟩|⟨rfl,e1,e2⟩
  ·simp -implicitDefEqProofs only[A9,rW,sS,Nat.reduceAdd];rw[ga (x:=z-1) (by omega)]
   exact Ev.ret (kl.of hj E)
  ·simp only[List.getElem?_cons_succ,List.getElem?_cons_zero,Option.some.injEq] at e1 e2;subst e1 e2;show Ev (λ_=>some (Value.tuple #[cv d,cv u],H1)) _
   exact Ev.ret (kl.of hj E)
theorem MU {a b c m:Int}(h: ¬Y.iC a b c m<1):2≤m∧m≤65536∧Y.iC a b c m≤m:=by
 have h1:2≤m∧m≤65536:=by
  refine Decidable.byContradiction λhn=>h ?_
  unfold Y.iC;rw[if_pos (by omega)];decide
 exact⟨h1.1,h1.2,Y.Fi h1.1⟩
theorem Tu (h:JX K p st H){f:Nat}(hf:st.left≤f)(a k:Int):aF (run G) 117 [pv p,cv a,cv k] H (kl K p st (Y.lu f a k)):=by
 refine Ev.up (t:=λn=>OD (run G n) n (pv p) (cv a) (cv k) H) ?_ λn=>Io ..
 simp -implicitDefEqProofs only[OD,sS,Nat.reduceAdd];refine Ev.fe (df h a) λd s1 H1 e1 fK=>?_
 try simp -implicitDefEqProofs only[sS,Nat.reduceAdd,cP]
 refine Ev.lss (λh1=>?_) (λh1=>?_)<;>try simp -implicitDefEqProofs only[sS,Nat.reduceAdd,cP]
 ·refine Ev.ret (kl.of fK ?_);simp only[Y.lu,Y.al,bn,bG,bM,cW,cX,ne_eq,not_true_eq_false,not_false_eq_true,if_true,if_false,Bool.not_true,Bool.not_false,true_and,and_true,false_and,and_false,true_or,or_true,false_or,or_false,Bool.false_eq_true,decide_true,decide_false, *]
 refine Ev.is (pF _ _) ?_;refine Ev.fe (df fK _) λq2 s2 H2 e2 fP=>?_
 try simp -implicitDefEqProofs only[sS,Nat.reduceAdd,cP]
 refine Ev.lss (λh2=>?_) (λh2=>?_)<;>try simp -implicitDefEqProofs only[sS,Nat.reduceAdd,cP]
 ·refine Ev.ret (kl.of fP ?_);simp only[Y.lu,Y.al,bn,bG,bM,cW,cX,ne_eq,not_true_eq_false,not_false_eq_true,if_true,if_false,Bool.not_true,Bool.not_false,true_and,and_true,false_and,and_false,true_or,or_true,false_or,or_false,Bool.false_eq_true,decide_true,decide_false, *]
 refine Ev.eql (λh3=>?_) (λh3=>?_)<;>try simp -implicitDefEqProofs only[sS,Nat.reduceAdd,cP]
 ·refine Ev.ret (kl.of fP ?_);simp only[Y.lu,Y.al,bn,bG,bM,cW,cX,ne_eq,not_true_eq_false,not_false_eq_true,if_true,if_false,Bool.not_true,Bool.not_false,true_and,and_true,false_and,and_false,true_or,or_true,false_or,or_false,Bool.false_eq_true,decide_true,decide_false, *];simp only[Int.lt_irrefl,if_false,if_true,e2,h2,Y.al,bn,bG,bM,cW,cX,ne_eq,not_true_eq_false,not_false_eq_true,if_true,if_false,Bool.not_true,Bool.not_false,true_and,and_true,false_and,and_false,true_or,or_true,false_or,or_false,Bool.false_eq_true,decide_true,decide_false]
 refine Ev.is (pF _ _) ?_;refine Ev.fe (df fP _) λq3 s3 H3 e3 gG=>?_
 try simp -implicitDefEqProofs only[sS,Nat.reduceAdd,cP]
 refine Ev.geq (λh4=>?_) (λh4=>?_)<;>try simp -implicitDefEqProofs only[sS,Nat.reduceAdd,cP]
 ·refine Ev.ret (kl.of gG ?_);simp only[Y.lu,Y.al,bn,bG,bM,cW,cX,ne_eq,not_true_eq_false,not_false_eq_true,if_true,if_false,Bool.not_true,Bool.not_false,true_and,and_true,false_and,and_false,true_or,or_true,false_or,or_false,Bool.false_eq_true,decide_true,decide_false, *]
 refine Ev.is (Tq _ _ _ _) ?_
 try simp -implicitDefEqProofs only[sS,Nat.reduceAdd,cP]
 have B:Y.ah (Y.lu f a k) st=Y.ah (if s3.off=true∨Y.iC q2 q3 k (Y.wr (d-1))<1 then pure (d,0) else do
   let down ←(if Y.iC q2 q3 k (Y.wr (d-1))>1 then do
     let z ←Y.rd (Y.lM a (Y.iC q2 q3 k (Y.wr (d-1))))
     pure (decide (z>k))
    else pure false)
   if down then
    let i ←Y.mS a k f (Y.iC q2 q3 k (Y.wr (d-1))-1)
    pure (d,i)
   else
    let i ←Y.MK a k (Y.wr (d-1)) f (Y.iC q2 q3 k (Y.wr (d-1))+1)
    pure (d,i)) s3:=by
  simp only[Y.lu,Y.al,bn,bG,bM,cW,cX,ne_eq,not_true_eq_false,not_false_eq_true,if_true,if_false,Bool.not_true,Bool.not_false,true_and,and_true,false_and,and_false,true_or,or_true,false_or,or_false,Bool.false_eq_true,decide_true,decide_false,h1,h2,h3,h4,e1,e2,e3];rfl
 have l1:=du e1;have l2:=du e2;have l3:=du e3;have gp:=@MU q2 q3 k (Y.wr (d-1));generalize Y.iC q2 q3 k (Y.wr (d-1))=j at*
 generalize Y.wr (d-1)=m at*
 refine Ev.nZ gG (λhq=>?_) (λhq=>?_)<;>try simp -implicitDefEqProofs only[sS,Nat.reduceAdd,cP]
 ·refine Ev.ret (kl.of gG ?_);rw[B,if_pos (.inl hq)];rfl
 refine Ev.lss (λh5=>?_) (λh5=>?_)<;>try simp -implicitDefEqProofs only[sS,Nat.reduceAdd,cP]
 ·refine Ev.ret (kl.of gG ?_);rw[B,if_pos (.inr h5)];rfl
 obtain⟨g1,g2,g3⟩:=gp h5;rw[if_neg (by rw[hq];simp;omega)] at B
 refine Ev.gtr (λh6=>?_) (λh6=>?_)<;>try simp -implicitDefEqProofs only[sS,Nat.reduceAdd,cP]
 ·refine Ev.is (pF _ _) ?_;refine Ev.fe (df gG _) λq4 s4 H4 e4 jh=>?_
  have l4:=du e4;rw[if_pos h6] at B;simp only[Y.bind_assoc] at B
  try simp -implicitDefEqProofs only[sS,Nat.reduceAdd,cP]
  refine Ev.gtr (λh7=>?_) (λh7=>?_)<;>try simp -implicitDefEqProofs only[sS,Nat.reduceAdd,cP]
  ·have e5:Y.wr (j-1)=j-1:=by unfold Y.wr;omega
   try rw[e5]
   exact Hl jh (f:=f) (i:=j-1) (z:=m) (d:=d) (a:=a) (k:=k) ⟨g1,g2⟩ (by omega) (by omega) (by rw[B,Y.aJ e4];simp only[h7,decide_true,Y.bind_pure,if_true])
  ·have e5:Y.wr (j+1)=j+1:=by unfold Y.wr;omega
   rw[e5];exact Fm jh (f:=f) (i:=j+1) (z:=m) (d:=d) (a:=a) (k:=k) ⟨g1,g2⟩ (by omega) (by omega) (by rw[B,Y.aJ e4];simp only[h7,decide_false,Y.bind_pure,if_false,Bool.false_eq_true])
 ·have e5:Y.wr (j+1)=j+1:=by unfold Y.wr;omega
  try rw[e5]
  rw[if_neg h6] at B;exact Fm gG (f:=f) (i:=j+1) (z:=m) (d:=d) (a:=a) (k:=k) ⟨g1,g2⟩ (by omega) (by omega) (by rw[B];simp only[Y.bind_pure,if_false,Bool.false_eq_true])
theorem Tv (h:JX K p st H){f:Nat}(hf:st.left≤f)(a k:Int):aF (run G) 144 [pv p,cv a,cv k] H (oW K p st (Y.nD f a k)):=by
 refine Ev.up (t:=λn=>OL (run G n) n (pv p) (cv a) (cv k) H) ?_ λn=>Iy ..
 simp -implicitDefEqProofs only[OL,sS,Nat.reduceAdd];refine Ev.aaS (Tu h hf a k) λd c s1 H1 e1 fK=>?_
 try simp -implicitDefEqProofs only[sS,Nat.reduceAdd]
 refine Ev.is (kV _ _ _) ?_
 try simp -implicitDefEqProofs only[sS,Nat.reduceAdd]
 refine Ev.ret (oW.of fK ?_);simp only[Y.nD,Y.al,bn,bG,bM,cW,cX,ne_eq,not_true_eq_false,not_false_eq_true,if_true,if_false,Bool.not_true,Bool.not_false,true_and,and_true,false_and,and_false,true_or,or_true,false_or,or_false,Bool.false_eq_true,decide_true,decide_false,e1]
end
section
open Go.Proofs.YtgfgglponbmgmaaGreatA
variable {G:ae} {H H':aa} {o o':aj} {p:Nat} {K:aa→aj→Prop} {st Nz s1:Y.St} {α β:Type}
theorem Bw {a z:Int}{f:Nat}{s s':Y.St}(e:Y.ah (Y.kK f a) s=(z,s')):s'.left≤s.left-1:=by
 unfold Y.kK at e;rw[Y.al] at e;have h1:(Y.ah (Y.rd a) s).2.left=s.left-1:=du rfl;have h2:=dv e;omega
theorem MV {a z:Int}{s s':Y.St}(e:Y.ah (Y.sD a) s=(z,s')):s'.left≤s.left-1:=by
 unfold Y.sD at e;rw[Y.al] at e;have h1:(Y.ah (Y.rd a) s).2.left=s.left-1:=du rfl;have h2:=dv e;omega
theorem JX.left (h:JX K p st H):st.left≤1048577:=by
 obtain⟨hK,o,⟨tape,w,T,W,i,nk,na,nx,ny,ty,g,ho,ht,hT,hw,hi,hr,_⟩,hk⟩:=h;unfold Y.St.left;split
 ·omega
 ·rw[hr];simp;omega
theorem Bx {n d i all:Int}{f:Nat}{s:Y.St}{g:Int→Y.Tr β}(h:s.off=true∨¬i<d):Y.ah (Y.iL f n d i all >>= g) s=Y.ah (g all) s:=by
 cases f with
 |zero=>unfold Y.iL;rfl
 |succ f=>
  rw[Y.al];unfold Y.iL;by_cases h1:i<d
  ·rw[if_neg (by omega)]
   have h2:=h.resolve_right (λx=>x h1)
   simp only[Y.al,bn,bG,bM,cW,cX,ne_eq,not_true_eq_false,not_false_eq_true,if_true,if_false,Bool.not_true,Bool.not_false,true_and,and_true,false_and,and_false,true_or,or_true,false_or,or_false,Bool.false_eq_true,decide_true,decide_false,h2]
  ·rw[if_pos h1];rfl
theorem PW {n d i all:Int}{f:Nat}{s:Y.St}{g:Int→Y.Tr β}(h:s.off=false)(h1:i<d):Y.ah (Y.iL (f+1) n d i all >>= g) s=Y.ah (Y.kK f (Y.dr n d i) >>= λw=>
  (if Y.kd w=2 then Y.iL f n d (i+1) (Y.wr (all+1)) else
  if Y.kd w=3 then Y.kj f (Y.aw w) >>= λz=>Y.iL f n d (i+1) (Y.wr (all+z))
  else if Y.kd w=4 then Y.rd (Y.aw w) >>= λt=>Y.kj f (Y.aw t) >>= λz=>Y.iL f n d (i+1) (Y.wr (all+z))
  else Y.iL f n d (i+1) all) >>= g) s:=by
 rw[Y.al]
 conv=>lhs;unfold Y.iL
 rw[if_neg (by omega)]
 simp only[Y.al,bn,bG,bM,cW,cX,ne_eq,not_true_eq_false,not_false_eq_true,if_true,if_false,Bool.not_true,Bool.not_false,true_and,and_true,false_and,and_false,true_or,or_true,false_or,or_false,Bool.false_eq_true,decide_true,decide_false,h]
theorem YE: ∀(f:Nat) {st:Y.St} {H:aa},JX K p st H→st.left≤f→∀{a:Int},(-9223372036854775808≤a∧a≤65536)→aF (run G) 121 [pv p,cv a] H (oW K p st (Y.kj (f+1) a)):=by
 intro f;induction f using Nat.strongRecOn with
 |ind f ih=>
 intro st H h hf a ha;have w4: ∀{j:Int},0≤j∧j≤8→IntKind.i64.wrap (a+j)=a+j:=λhj=>by rw[ga (by omega)]
 refine Ev.up (t:=λn=>Xd (run G n) n (pv p) (cv a) H) ?_ λn=>R3 ..
 simp -implicitDefEqProofs only[Xd,sS,Nat.reduceAdd,w4 (j:=4) (by omega)]
 refine Ev.fe (df h _) λq1 s1 H1 e1 fK=>?_
 try simp -implicitDefEqProofs only[sS,Nat.reduceAdd]
 refine Ev.neq (λh1=>?_) (λh1=>?_)<;>try simp -implicitDefEqProofs only[sS,Nat.reduceAdd,cP]
 ·refine Ev.ret (oW.of fK ?_);unfold Y.kj;simp only[Y.al,bn,bG,bM,cW,cX,ne_eq,not_true_eq_false,not_false_eq_true,if_true,if_false,Bool.not_true,Bool.not_false,true_and,and_true,false_and,and_false,true_or,or_true,false_or,or_false,Bool.false_eq_true,decide_true,decide_false, *]
 rw[←cP,w4 (j:=2) (by omega)]
 refine Ev.ZV (C9 fK _ _) λv u s2 H2 e2 fP=>?_
 try simp -implicitDefEqProofs only[sS,Nat.reduceAdd]
 refine Ev.fe (df fP _) λd s3 H3 e3 gG=>?_
 try simp -implicitDefEqProofs only[sS,Nat.reduceAdd]
 have l1:=du e1;have l2:=dv e2;have l3:=du e3;have ZW:=h.left;have B:Y.ah (Y.kj (f+1) a) st=Y.ah (Y.iL f a d 0 0 >>= λall=>Y.wt (a+4) (Y.wr (all+1)) >>= λ_=>pure all) s3:=by
  conv=>lhs;unfold Y.kj
  simp only[Y.al,bn,bG,bM,cW,cX,ne_eq,not_true_eq_false,not_false_eq_true,if_true,if_false,Bool.not_true,Bool.not_false,true_and,and_true,false_and,and_false,true_or,or_true,false_or,or_false,Bool.false_eq_true,decide_true,decide_false,e1,e2,e3,h1]
 have hinv:s3.left+1≤f∨s3.off=true:=by
  by_cases ho:s3.off=true
  ·exact .inr ho
  ·have:1≤s3.left:=iU (by simpa using ho)
   exact .inl (by omega)
 refine Ev.loop (k:=s3.left) (λk vs Hx=>∃(i s:Int) (sx:Y.St) (fx:Nat) (x4 x5 bf bJ x9 de cV dZ aC gE:Value),vs=[pv p,cv a,x4,x5,bf,cv i,cv d,bJ,x9,de,cV,cv s,dZ,aC,gE]∧JX K p sx Hx∧k=sx.left∧fx≤f∧(sx.left+1≤fx∨sx.off=true)∧0≤i∧i+sx.left≤st.left∧Y.ah (Y.kj (f+1) a) st=Y.ah (Y.iL fx a d i s >>= λall=>Y.wt (a+4) (Y.wr (all+1)) >>= λ_=>pure all) sx)
  (λr=>r.1= .exit 0∧∃(i s:Int) (sx:Y.St) (x4 x5 bf bJ x9 de cV dZ aC gE:Value),r.2.1=[pv p,cv a,x4,x5,bf,cv i,cv d,bJ,x9,de,cV,cv s,dZ,aC,gE]∧JX K p sx r.2.2∧Y.ah (Y.kj (f+1) a) st=Y.ah (Y.wt (a+4) (Y.wr (s+1)) >>= λ_=>pure s) sx) ⟨0,0,s3,f,_,_,_,_,_,_,_,_,_,_,rfl,gG,rfl,Nat.le_refl _,hinv,by omega,by omega,B⟩ ?_ ?_
 ·rintro k vs Hx ⟨i,s,sx,fx,x4,x5,bf,bJ,x9,de,cV,dZ,aC,gE,rfl,hj,rfl,hfx,qU,hi,ZT,E⟩;simp -implicitDefEqProofs only[Ln,xN,sS,Nat.reduceAdd];refine Ev.lss (λh2=>?_) (λh2=>?_)<;>try simp -implicitDefEqProofs only[sS,Nat.reduceAdd]
  ·refine Ev.nZ hj (λhq=>?_) (λhq=>?_)<;>try simp -implicitDefEqProofs only[sS,Nat.reduceAdd]
   ·rw[Bx (.inl hq)] at E;exact Ev.ret (.inr ⟨by simp,rfl,i,s,sx,_,_,_,_,_,_,_,_,_,_,rfl,hj,E⟩)
   have l4:=iU hq;have PX:sx.left+1≤fx:=qU.resolve_right (by rw[hq];simp)
   obtain⟨fy,rfl⟩: ∃fy,fx=fy+2:=⟨fx-2,by omega⟩
   rw[PW hq h2] at E;refine Ev.is (kV _ _ _) ?_;refine Ev.fe (He hj (f:=fy+1) (by omega) _) λw t1 G1 f1 k1=>?_
   have m1:=Bw f1;rw[Y.aJ f1] at E
   try simp -implicitDefEqProofs only[sS,Nat.reduceAdd]
   refine Ev.is (n3 _) ?_
   try simp -implicitDefEqProofs only[sS,Nat.reduceAdd]
   refine Ev.is (hX _) ?_
   try simp -implicitDefEqProofs only[sS,Nat.reduceAdd]
   have wi:IntKind.i64.wrap (i+1)=i+1:=ga (by omega)
   have Tw: ∀{s':Int} {sy:Y.St} {Hy:aa} {x4 x5 bf bJ x9 de cV dZ aC gE:Value},JX K p sy Hy→sy.left≤sx.left-1→Y.ah (Y.kj (f+1) a) st=Y.ah (Y.iL (fy+1) a d (i+1) s' >>= λall=>Y.wt (a+4) (Y.wr (all+1)) >>= λ_=>pure all) sy→
     Ev (λn=>py (run G n) n [pv p,cv a,x4,x5,bf,cv i,cv d,bJ,x9,de,cV,cv s',dZ,aC,gE] Hy) λr=>(r.1= .normal∧∃k',k'<sx.left∧∃(i s:Int) (sx:Y.St) (fx:Nat) (x4 x5 bf bJ x9 de cV dZ aC gE:Value),r.2.1=[pv p,cv a,x4,x5,bf,cv i,cv d,bJ,x9,de,cV,cv s,dZ,aC,gE]∧JX K p sx r.2.2∧k'=sx.left∧fx≤f∧(sx.left+1≤fx∨sx.off=true)∧0≤i∧i+sx.left≤st.left∧Y.ah (Y.kj (f+1) a) st=Y.ah (Y.iL fx a d i s >>= λall=>Y.wt (a+4) (Y.wr (all+1)) >>= λ_=>pure all) sx)∨(r.1≠ .normal∧r.1= .exit 0∧∃(i s:Int) (sx:Y.St) (x4 x5 bf bJ x9 de cV dZ aC gE:Value),r.2.1=[pv p,cv a,x4,x5,bf,cv i,cv d,bJ,x9,de,cV,cv s,dZ,aC,gE]∧JX K p sx r.2.2∧Y.ah (Y.kj (f+1) a) st=Y.ah (Y.wt (a+4) (Y.wr (s+1)) >>= λ_=>pure s) sx):=by
    intro s' sy Hy x4 x5 bf bJ x9 de cV dZ aC gE hy ly Ey;simp -implicitDefEqProofs only[Lm,xM,sS,Nat.reduceAdd,wi];exact Ev.ret (.inl ⟨rfl,sy.left,by omega,i+1,s',sy,fy+1,_,_,_,_,_,_,_,_,_,_,rfl,hy,rfl,by omega,.inl (by omega),by omega,by omega,Ey⟩)
   refine Ev.eql (λk2=>?_) (λk2=>?_)<;>try simp -implicitDefEqProofs only[sS,Nat.reduceAdd,cP]
   ·rw[if_pos k2] at E;exact Tw k1 m1 E
   refine Ev.eql (λk3=>?_) (λk3=>?_)<;>try simp -implicitDefEqProofs only[sS,Nat.reduceAdd,cP]
   ·rw[if_neg k2,if_pos k3] at E;refine Ev.fe (ih fy (by omega) k1 (by omega) (qm _)) λz t2 G2 f2 k2'=>?_
    have m2:=dv f2;simp only[Y.bind_assoc] at E;rw[Y.aJ f2] at E
    try simp -implicitDefEqProofs only[sS,Nat.reduceAdd,cP]
    exact Tw k2' (by omega) E
   refine Ev.eql (λk4=>?_) (λk4=>?_)<;>try simp -implicitDefEqProofs only[sS,Nat.reduceAdd,cP]
   ·rw[if_neg k2,if_neg k3,if_pos k4] at E;refine Ev.fe (df k1 _) λtt t2 G2 f2 k2'=>?_
    have m2:=du f2;simp only[Y.bind_assoc] at E;rw[Y.aJ f2] at E
    try simp -implicitDefEqProofs only[sS,Nat.reduceAdd,cP]
    refine Ev.is (n3 _) ?_;refine Ev.fe (ih fy (by omega) k2' (by omega) (qm _)) λz t3 G3 f3 k3'=>?_
    have m3:=dv f3;rw[Y.aJ f3] at E
    try simp -implicitDefEqProofs only[sS,Nat.reduceAdd,cP]
    exact Tw k3' (by omega) E
   ·rw[if_neg k2,if_neg k3,if_neg k4] at E;exact Tw k1 m1 E
  ·rw[Bx (.inr h2)] at E;exact Ev.ret (.inr ⟨by simp,rfl,i,s,sx,_,_,_,_,_,_,_,_,_,_,rfl,hj,E⟩)
 ·rintro e vs Hx ⟨rfl,i,s,sx,x4,x5,bf,bJ,x9,de,cV,dZ,aC,gE,hv,hj,E⟩;simp only at hv hj;subst hv;simp -implicitDefEqProofs only[Lo,xO,sS,Nat.reduceAdd,w4 (j:=4) (by omega)]
  refine Ev.ZV (C9 hj _ _) λv u s4 H4 e4 jh=>?_
  try simp -implicitDefEqProofs only[sS,Nat.reduceAdd]
  refine Ev.ret (oW.of jh ?_);rw[E];rw[cP] at e4;simp only[Y.al,bn,bG,bM,cW,cX,ne_eq,not_true_eq_false,not_false_eq_true,if_true,if_false,Bool.not_true,Bool.not_false,true_and,and_true,false_and,and_false,true_or,or_true,false_or,or_false,Bool.false_eq_true,decide_true,decide_false,e4]
end
section
variable {G:ae} {H H':aa} {o o':aj} {p m c:Nat} {K:aa→aj→Prop} {t:Int} {x:Value} {l:PL}
def KO (K:aa→aj→Prop)(t:Int)(x:Value)(l:PL):aa→aj→Prop:=λH o=>K H o∧gZ H o t x l
structure oZ (t:Int) (p:Nat):Prop where
 ne:t≠p
 n0:t≠ -50
 n1:t≠ -51
theorem gZ.fr {H H':aa}{o o':aj}{q:Int}{x:Value}{l:PL}{ps:List Int}(h:gZ H o q x l)(f:Fr H o H' o' ps)(hp:q ∉ ps):gZ H' o' q x l:=by
 rcases h with h|⟨i,cap,rest,ty,h1,h2,h3,h4⟩
 ·exact .inl h
 ·exact .inr ⟨i,cap,rest,ty,h1,by rw[f.same i (ar h2) (by rw[h4];exact hp)];exact h2,h3,by rw[f.own i (ar h2)];exact h4⟩
theorem bH.ko (ht:oZ t p)(h:bH [(p:Int),t] K):bH [(p:Int)] (KO K t x l):=λH o H' o' a f=>⟨h H o H' o' a.1 (f.wk (by simp)),gZ.fr a.2 f (by simpa using ht.ne)⟩
section
variable {α:Type} {k:Nat→Value→aa→Option α} {Q:α→Prop} {a b:Int} {T ty:TypeId} {C:Nat→ae} {f:Nat} {args:List Value}
end
theorem zt (a b:Int):aE Tryz.prog 45 [(0,cv a),(1,cv b)]=some (.agg #[cv a,cv b]):=by kernel_rfl
theorem Hm (a b:Int)(H:aa):ay Tryz.prog 31 1 [(0,.agg #[cv a,cv b])] H=some (.slice (some ⟨H.length,0,none⟩) 1 1,H.new ⟨[cv a,cv b],45,2,false⟩):=by kernel_rfl
end
end Go.Proofs.YtgfgglponbmgmaaGreat.Fun
end
