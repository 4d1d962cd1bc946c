/- Texts of the proof of peekShort_holds, put together by a small program of ours (names shortened, spaces taken out). No condition beyond the given statement. -/
import Derived.Test.YtgfgglponbmgmaaGreatPSH16
import Derived.Test.YtgfgglponbmgmaaGreatPSH11
import Derived.Test.YtgfgglponbmgmaaGreatPSH12
import Derived.Test.YtgfgglponbmgmaaGreatPSH13
import Derived.Test.YtgfgglponbmgmaaGreatPSH14
import Derived.Test.YtgfgglponbmgmaaGreatPSH22
import Derived.Test.YtgfgglponbmgmaaGreatPSH24
import Derived.Test.YtgfgglponbmgmaaGreatPSH18
set_option linter.unusedVariables false
set_option linter.unusedSimpArgs false
set_option linter.unnecessarySimpa false
noncomputable section
section
namespace Go.Proofs.YtgfgglponbmgmaaGreat.Fun
open Go Go.RowKit Go.Proofs.YtgfgglponbmgmaaGreatA.Am
set_option maxRecDepth 10000
section
open Go.Proofs.YtgfgglponbmgmaaGreatA
variable {G:ae} {H H':aa} {o o':aj} {p:Nat} {K:aa→aj→Prop} {st LV s1:Y.St} {α β:Type}
theorem RT (x:Int):IntKind.u64.wrap x=x%18446744073709551616:=by simp[IntKind.wrap,IntKind.bits,IntKind.signed]
theorem F0 {x:Int}(h:0≤x∧x<18446744073709551616):IntKind.u64.wrap x=x:=by rw[RT];omega
theorem acu {x:Int}(h0:0≤x)(h1:x<2^63):Go.bits .and .i64 x 1=x%2:=
 bits_mask .i64 63 (by decide) (λn _ h=>by rw[IntKind.wrap_i64];omega) 1 (by decide) x h0 h1
theorem acv (t:TypeId)(a b:Int):ai Tryz.prog .eql t (uv a) (uv b)=some (.bool (decide (a=b))):=by
 show some (Value.bool (a==b))=_
 congr 2
theorem Z8 (t:TypeId)(a b:Int):ai Tryz.prog .geq t (uv a) (uv b)=some (.bool (decide (a≥b))):=rfl
theorem TE (a b:Int):aE (run G) 162 [cv a,cv b] H (Is H (uv (Y.uT a b))):=by
 refine Ev.up (t:=λn=>Nn (run G n) n (cv a) (cv b) H) ?_ λn=>Hg ..
 simp -implicitDefEqProofs only[Nn,sS,Nat.reduceAdd,RM,uU];refine Ev.lss (λh1=>?_) (λh1=>?_)<;>try simp -implicitDefEqProofs only[sS,Nat.reduceAdd,RM,uU]
 ·exact Ev.ret ⟨by simp[Y.uT,h1],rfl⟩
 ·refine Ev.ret ⟨?_,rfl⟩;refine congrArg uv ?_;rw[RT,RT,RT];unfold Y.uT;rw[if_neg (by omega)];omega
theorem CB (a b:Int):0≤Y.uT a b∧Y.uT a b<18446744073709551616:=by unfold Y.uT;split<;>omega
theorem RU {a b:Int}(c:Int)(ha:0≤a∧a<18446744073709551616)(hb:0≤b∧b<18446744073709551616):aE (run G) 161 [uv a,uv b,cv c] H (Is H (cv (Y.kf a b c))):=by
 refine Ev.up (t:=λn=>MX (run G n) n (uv a) (uv b) (cv c) H) ?_ λn=>GS ..
 simp -implicitDefEqProofs only[MX,sS,Nat.reduceAdd,acv];by_cases h0:b=0
 ·simp -implicitDefEqProofs only[h0,decide_true,sS,Nat.reduceAdd];exact Ev.ret ⟨by simp[Y.kf],rfl⟩
 simp -implicitDefEqProofs only[h0,decide_false,sS,Nat.reduceAdd];refine Ev.lss (λh1=>?_) (λh1=>?_)<;>try simp -implicitDefEqProofs only[sS,Nat.reduceAdd]
 ·exact Ev.ret ⟨by simp[Y.kf,h1],rfl⟩
 refine Ev.gtr (λh2=>?_) (λh2=>?_)<;>try simp -implicitDefEqProofs only[sS,Nat.reduceAdd,ZO]
 ·exact Ev.ret ⟨by simp[Y.kf,h2],rfl⟩
 have hS:Y.kf a b c=Y.cl (if b<a then b else a) b c 17 0 0:=by
  unfold Y.kf;rw[if_neg (by omega)]
  congr 1;split<;>split<;>omega
 have hr:0≤(if b<a then b else a)∧(if b<a then b else a)≤b:=by split<;>omega
 rw[hS];generalize (if b<a then b else a)=r0 at hr
 refine Ev.loop (k:=17) (λk vs Hx=>∃(q r:Int) (d24 d33 d49 d54:Value),Hx=H∧k≤17∧0≤r∧r<b∧0≤q∧q+2≤2*2^(17-k)∧Y.cl r0 b c k q r=Y.cl r0 b c 17 0 0∧vs=[uv r0,uv b,cv c,cv 0,.bool false,cv ((k:Int)-1),d24,cv q,uv r,d33,d49,d54])
  (λr=>r.1= .exit 0∧r.2.2=H∧∃(d8 d9 d24 d33 d49 d54:Value),r.2.1=[uv r0,uv b,cv c,cv 0,.bool false,d9,d24,cv (Y.cl r0 b c 17 0 0),d8,d33,d49,d54]) ⟨0,0,_,_,_,_,rfl,by omega,by omega,by omega,by omega,by decide,rfl,rfl⟩ ?_ ?_
 ·rintro k vs Hx ⟨q,r,d24,d33,d49,d54,rfl,hk,r0',r1',q0,q1,hE,rfl⟩;simp -implicitDefEqProofs only[Ay,rQ,sS,Nat.reduceAdd];refine Ev.geq (λhq=>?_) (λhq=>?_)<;>try simp -implicitDefEqProofs only[sS,Nat.reduceAdd,uU]
  ·obtain⟨j,rfl⟩: ∃j,k=j+1:=⟨k-1,by omega⟩
   have eb:((j+1:Nat):Int)-1=(j:Int):=by omega
   have hw:IntKind.i64.wrap ((j:Int)-1)=(j:Int)-1:=fL (by omega)
   have qb:q+2≤262144:=by
    have:(2:Int)^(17-(j+1))≤65536:=by
     have h:2^(17-(j+1))≤2^16:=Nat.pow_le_pow_right (by decide) (by omega)
     have e:((2^(17-(j+1)):Nat):Int)=2^(17-(j+1)):=Int.natCast_pow 2 _;have h2:(2:Nat)^16=65536:=by decide
     omega
    omega
   have qn: ∀q',q'≤2*q+2→q'+2≤2*2^(17-j):=by
    intro q' h;have:(2:Int)^(17-j)=2^(17-(j+1))*2:=by
     rw[←Int.pow_succ];congr 1;omega
    omega
   have iJ: ∀(q r:Int) (d24 d33 d49 d54:Value),0≤r→r<b→0≤q→q+2≤2*2^(17-j)→Y.cl r0 b c j q r=Y.cl r0 b c 17 0 0→Ev (λn=>ph (run G n) n [uv r0,uv b,cv c,cv 0,.bool false,cv ((j+1:Nat)-1),d24,cv q,uv r,d33,d49,d54] Hx) λr=>(r.1= .normal∧∃k',k'<j+1∧∃(q r':Int) (d24 d33 d49 d54:Value),r.2.2=Hx∧k'≤17∧0≤r'∧r'<b∧0≤q∧q+2≤2*2^(17-k')∧Y.cl r0 b c k' q r'=Y.cl r0 b c 17 0 0∧r.2.1=[uv r0,uv b,cv c,cv 0,.bool false,cv ((k':Int)-1),d24,cv q,uv r',d33,d49,d54])∨(r.1≠ .normal∧(r.1= .exit 0∧r.2.2=Hx∧∃(d8 d9 d24 d33 d49 d54:Value),r.2.1=[uv r0,uv b,cv c,cv 0,.bool false,d9,d24,cv (Y.cl r0 b c 17 0 0),d8,d33,d49,d54])):=by
    intro q r d24 d33 d49 d54 a1 a2 a3 a4 a5;simp -implicitDefEqProofs only[Aw,rN,sS,Nat.reduceAdd,eb,hw];exact Ev.ret (.inl ⟨rfl,j,by omega,q,r,_,_,_,_,rfl,by omega,a1,a2,a3,a4,a5,rfl⟩)
   have hc:c/2^j=c.fdiv (2^min ((j:Int)).toNat 64):=by
    have:min ((j:Int)).toNat 64=j:=by omega
    rw[this,Int.fdiv_eq_ediv_of_nonneg _ (by exact Int.le_of_lt (Int.pow_pos (by decide)))]
   have hcb:0≤c/2^j∧c/2^j≤65536:=by
    have hp:(0:Int)<2^j:=Int.pow_pos (by decide)
    have h1:0≤c/2^j:=Int.ediv_nonneg (by omega) (by omega)
    have h2:c/2^j≤c:=Int.ediv_le_self _ (by omega)
    omega
   have h2: ∀(q r:Int) (d24 d33 d49 d54:Value),0≤r→r<b→0≤q→q+1≤262144*2→(∀q',q'≤q+1→q'+2≤2*2^(17-j))→
     (if c/2^j%2=0 then Y.cl r0 b c j q r else if r0≥b-r then Y.cl r0 b c j (q+1) (r-(b-r0)) else Y.cl r0 b c j q (r+r0))=Y.cl r0 b c 17 0 0→
     Ev (λn=>rP (run G n) n [uv r0,uv b,cv c,cv 0,.bool false,cv ((j+1:Nat)-1),d24,cv q,uv r,d33,d49,d54] Hx) λr=>(r.1= .normal∧∃k',k'<j+1∧∃(q r':Int) (d24 d33 d49 d54:Value),r.2.2=Hx∧k'≤17∧0≤r'∧r'<b∧0≤q∧q+2≤2*2^(17-k')∧Y.cl r0 b c k' q r'=Y.cl r0 b c 17 0 0∧r.2.1=[uv r0,uv b,cv c,cv 0,.bool false,cv ((k':Int)-1),d24,cv q,uv r',d33,d49,d54])∨(r.1≠ .normal∧(r.1= .exit 0∧r.2.2=Hx∧∃(d8 d9 d24 d33 d49 d54:Value),r.2.1=[uv r0,uv b,cv c,cv 0,.bool false,d9,d24,cv (Y.cl r0 b c 17 0 0),d8,d33,d49,d54])):=by
    intro q r d24 d33 d49 d54 a1 a2 a3 a4 a5 a6;simp -implicitDefEqProofs only[Ax,rO,sS,Nat.reduceAdd,eb,Ob j (by omega),ZP,Cp, ←hc,acu hcb.1 (by omega)]
    refine Ev.eql (λhq=>?_) (λhq=>?_)<;>try simp -implicitDefEqProofs only[sS,Nat.reduceAdd,uU,Z8]
    ·rw[if_pos hq] at a6;have:=iJ q r d24 d33 (.bool true) d54 a1 a2 a3 (a5 q (by omega)) a6
     rw[eb] at this;exact this
    rw[if_neg hq] at a6;have e1:IntKind.u64.wrap (b-r)=b-r:=F0 (by omega)
    rw[e1];refine Ev.brD (λh3=>?_) (λh3=>?_)<;>try simp -implicitDefEqProofs only[sS,Nat.reduceAdd,uU,RL]
    ·rw[if_pos h3] at a6;have e2:IntKind.i64.wrap (q+1)=q+1:=fL (by omega)
     have e3:IntKind.u64.wrap (r-IntKind.u64.wrap (b-r0))=r-(b-r0):=by rw[F0 (x:=b-r0) (by omega),F0 (by omega)]
     rw[e2,e3];have:=iJ (q+1) (r-(b-r0)) d24 d33 (.bool false) (.bool (decide (r0≥b-r))) (by omega) (by omega) (by omega) (a5 _ (by omega)) a6
     rw[eb] at this;exact this
    ·rw[if_neg h3] at a6;have e3:IntKind.u64.wrap (r+r0)=r+r0:=F0 (by omega)
     rw[e3];have:=iJ q (r+r0) d24 d33 (.bool false) (.bool (decide (r0≥b-r))) (by omega) (by omega) a3 (a5 q (by omega)) a6
     rw[eb] at this;exact this
   have SX:(let q1:=if r≥b-r then 2*q+1 else 2*q
    let r1:=if r≥b-r then r-(b-r) else r+r
    if c/2^j%2=0 then Y.cl r0 b c j q1 r1 else if r0≥b-r1 then Y.cl r0 b c j (q1+1) (r1-(b-r0)) else Y.cl r0 b c j q1 (r1+r0))=Y.cl r0 b c 17 0 0:=hE
   have e0:IntKind.i64.wrap (2*q)=2*q:=fL (by omega)
   have e1:IntKind.u64.wrap (b-r)=b-r:=F0 (by omega)
   simp -implicitDefEqProofs only[Z8,e1,e0,sS,Nat.reduceAdd];refine Ev.brD (λh3=>?_) (λh3=>?_)<;>try simp -implicitDefEqProofs only[sS,Nat.reduceAdd,uU,RL]
   ·have e2:IntKind.i64.wrap (2*q+1)=2*q+1:=fL (by omega)
    have e3:IntKind.u64.wrap (r-(b-r))=r-(b-r):=F0 (by omega)
    simp only[e0,e1,e2,e3];simp only[if_pos h3] at SX;exact h2 _ _ _ _ _ _ (by omega) (by omega) (by omega) (by omega) (λq' h=>qn q' (by omega)) SX
   ·have e3:IntKind.u64.wrap (r+r)=r+r:=F0 (by omega)
    simp only[e0,e3];simp only[if_neg h3] at SX;exact h2 _ _ _ _ _ _ (by omega) (by omega) (by omega) (by omega) (λq' h=>qn q' (by omega)) SX
  ·have:k=0:=by omega
   subst this;rw[←hE];exact Ev.ret (.inr ⟨by simp,rfl,rfl,_,_,_,_,_,_,rfl⟩)
 ·rintro e vs Hx ⟨he,rfl,d8,d9,d24,d33,d49,d54,rfl⟩;simp only at he;subst he;simp -implicitDefEqProofs only[Az,rR,sS,Nat.reduceAdd];exact Ev.ret ⟨rfl,rfl⟩
theorem Oq {a b c:Int}(ha:0≤a)(hb:0≤b)(hc:1≤c):Y.kf a b c≤c:=Y.AS ha hb hc
theorem RV (a b c d:Int):aE (run G) 143 [cv a,cv b,cv c,cv d] H (Is H (cv (Y.ig a b c d))):=by
 refine Ev.up (t:=λn=>Nx (run G n) n (cv a) (cv b) (cv c) (cv d) H) ?_ λn=>Hw ..
 simp -implicitDefEqProofs only[Nx,sS,Nat.reduceAdd];repeat' (first| (refine Ev.ret ⟨?_,rfl⟩;refine congrArg cv ?_;unfold Y.ig;rw[if_pos (by omega)];done)| ((with_reducible first|refine Ev.lss (λhq=>?_) (λhq=>?_)|refine Ev.gtr (λhq=>?_) (λhq=>?_)|refine Ev.geq (λhq=>?_) (λhq=>?_))<;>try simp -implicitDefEqProofs only[sS,Nat.reduceAdd]))
 all_goals
  refine Ev.is (TE _ _) ?_;refine Ev.is (TE _ _) ?_
  try simp -implicitDefEqProofs only[sS,Nat.reduceAdd]
  have e1:IntKind.i64.wrap (d-1)=d-1:=fL (by omega)
  rw[e1];refine Ev.is (RU _ (CB _ _) (CB _ _)) ?_
  try simp -implicitDefEqProofs only[sS,Nat.reduceAdd]
  refine Ev.ret ⟨?_,rfl⟩;refine congrArg cv ?_;unfold Y.ig;rw[if_neg (by omega)]
  have g1:=(CB a c).1;have g2:=(CB a b).1;have:=Oq (c:=d-1) g1 g2 (by omega)
  have:=Y.K9 (part:=Y.uT a c) (whole:=Y.uT a b) (N:=d-1)
  rw[fL (by omega)]
theorem Lb {n k i:Int}{f:Nat}{s:Y.St}{g:Int→Y.Tr β}(h:s.off=true∨¬i>1):Y.ah (Y.mF n k f i >>= g) s=Y.ah (g 1) s:=by
 cases f with
 |zero=>rfl
 |succ f=>
  rw[Y.ak];unfold Y.mF;by_cases h1:i>1
  ·rw[if_pos h1];have h2:=h.resolve_right (λx=>x h1)
   simp only[Y.ak,bk,bH,bL,cR,cS,ne_eq,not_true_eq_false,not_false_eq_true,if_true,if_false,Bool.not_true,Bool.not_false,true_and,and_true,false_and,and_false,true_or,or_true,false_or,or_false,Bool.false_eq_true,decide_true,decide_false,h2]
  ·rw[if_neg h1];rfl
theorem Ot {n k i:Int}{f:Nat}{s:Y.St}{g:Int→Y.Tr β}(h:s.off=false)(h1:i>1):Y.ah (Y.mF n k (f+1) i >>= g) s=Y.ah (Y.rd (Y.lC n i) >>= λz=>(if z≤k then pure i else Y.mF n k f (i-1)) >>= g) s:=by
 rw[Y.ak]
 conv=>lhs;unfold Y.mF
 rw[if_pos h1];simp only[Y.ak,bk,bH,bL,cR,cS,ne_eq,not_true_eq_false,not_false_eq_true,if_true,if_false,Bool.not_true,Bool.not_false,true_and,and_true,false_and,and_false,true_or,or_true,false_or,or_false,Bool.false_eq_true,decide_true,decide_false,h]
theorem RW {n k m i:Int}{f:Nat}{s:Y.St}{g:Int→Y.Tr β}(h:s.off=true∨¬i<m):Y.ah (Y.KY n k m f i >>= g) s=Y.ah (g (m-1)) s:=by
 cases f with
 |zero=>rfl
 |succ f=>
  rw[Y.ak];unfold Y.KY;by_cases h1:i<m
  ·rw[if_pos h1];have h2:=h.resolve_right (λx=>x h1)
   simp only[Y.ak,bk,bH,bL,cR,cS,ne_eq,not_true_eq_false,not_false_eq_true,if_true,if_false,Bool.not_true,Bool.not_false,true_and,and_true,false_and,and_false,true_or,or_true,false_or,or_false,Bool.false_eq_true,decide_true,decide_false,h2]
  ·rw[if_neg h1];rfl
theorem Xb {n k m i:Int}{f:Nat}{s:Y.St}{g:Int→Y.Tr β}(h:s.off=false)(h1:i<m):Y.ah (Y.KY n k m (f+1) i >>= g) s=Y.ah (Y.rd (Y.lC n i) >>= λz=>(if z>k then pure (i-1) else Y.KY n k m f (i+1)) >>= g) s:=by
 rw[Y.ak]
 conv=>lhs;unfold Y.KY
 rw[if_pos h1];simp only[Y.ak,bk,bH,bL,cR,cS,ne_eq,not_true_eq_false,not_false_eq_true,if_true,if_false,Bool.not_true,Bool.not_false,true_and,and_true,false_and,and_false,true_or,or_true,false_or,or_false,Bool.false_eq_true,decide_true,decide_false,h]
theorem F1 (h:JX K p st H){a k d z:Int}{f:Nat}{i:Int}(hz:2≤z∧z≤65536)(hi:0≤i∧i≤65536)(hf:st.left≤f){t:Y.Tr (Int×Int)}{Ou:Y.St}(E:Y.ah t Ou=Y.ah (Y.mF a k f i >>= λi=>pure (d,i)) st){x6 x7 bl aC bS bR aO cL aN dz fC iM fD aM ga fP:Value}:
  Ev (λn=>cd (iter n (vp (run G n) n) [pv p,cv a,cv k,x6,x7,cv d,cv z,bl,aC,bS,bR,aO,cL,aN,dz,fC,(cv i),iM,fD,aM,ga,fP] H) (dG 0 (dM (vq (run G n) n) (dM (Ch (run G n) n) (dX Tryz.prog [.tmp 6,.tmp 7] [0,1,2,6,7,8,9,21,10,29,32,11,41,12,56,68,13,79,88,14,103,112]))))) λr=>jW K p Ou t r.1 r.2:=by
 refine Ev.loop (k:=st.left) (λk' vs Hx=>∃(i:Int) (sx:Y.St) (f:Nat) (x6 x7 bl aC bS bR aO cL aN dz fC iM fD aM ga fP:Value),vs=[pv p,cv a,cv k,x6,x7,cv d,cv z,bl,aC,bS,bR,aO,cL,aN,dz,fC,cv i,iM,fD,aM,ga,fP]∧JX K p sx Hx∧k'=sx.left∧sx.left≤f∧(0≤i∧i≤65536)∧Y.ah t Ou=Y.ah (Y.mF a k f i >>= λi=>pure (d,i)) sx)
  (λr=>∃(sx:Y.St) (u:Int),JX K p sx r.2.2∧Y.ah t Ou=((d,u),sx)∧((r.1= .exit 0∧u=1)∨(r.1= .ret∧r.2.1[3]? =some (cv d)∧r.2.1[4]? =some (cv u)))∧∃(x6 x7 bl aC bS bR aO cL aN dz fC aI iM fD aM ga fP:Value),r.2.1=[pv p,cv a,cv k,x6,x7,cv d,cv z,bl,aC,bS,bR,aO,cL,aN,dz,fC,aI,iM,fD,aM,ga,fP]) ⟨i,st,f,_,_,_,_,_,_,_,_,_,_,_,_,_,_,_,_,rfl,h,rfl,hf,hi,E⟩ ?_ ?_
 ·rintro k' vs Hx ⟨i,sx,f,x6,x7,bl,aC,bS,bR,aO,cL,aN,dz,fC,iM,fD,aM,ga,fP,rfl,hj,rfl,hf,hi,E⟩;simp -implicitDefEqProofs only[AB,rW,sS,Nat.reduceAdd];have out:(sx.off=true∨¬i>1)→Y.ah t Ou=((d,1),sx):=by
   intro hn;rw[E,Lb hn];rfl
  refine Ev.gtr (λh1=>?_) (λh1=>?_)<;>try simp -implicitDefEqProofs only[sS,Nat.reduceAdd]
  ·refine Ev.nW hj (λhq=>?_) (λhq=>?_)<;>try simp -implicitDefEqProofs only[sS,Nat.reduceAdd]
   ·exact Ev.ret (.inr ⟨by simp,sx,_,hj,out (.inl hq),.inl ⟨rfl,rfl⟩,_,_,_,_,_,_,_,_,_,_,_,_,_,_,_,_,_,rfl⟩)
   refine Ev.is (pB _ _) ?_;refine Ev.eS (cX hj _) λq s1 H1 e1 fv=>?_
   have l1:=dj e1;have l2:=iE hq;obtain⟨fy,rfl⟩: ∃fy,f=fy+1:=⟨f-1,by omega⟩
   rw[Ot hq h1,Y.ak,e1] at E
   try simp -implicitDefEqProofs only[sS,Nat.reduceAdd]
   refine Ev.leq (λh2=>?_) (λh2=>?_)<;>try simp -implicitDefEqProofs only[sS,Nat.reduceAdd]
   ·try rw[fL (x:=i-1) (by omega)]
    refine Ev.ret (.inr ⟨by simp,s1,i,fv,?_,.inr ⟨rfl,rfl,rfl⟩,_,_,_,_,_,_,_,_,_,_,_,_,_,_,_,_,_,rfl⟩)
    rw[E];simp only[if_pos h2,Y.ak,bk,bH,bL,cR,cS,ne_eq,not_true_eq_false,not_false_eq_true,if_true,if_false,Bool.not_true,Bool.not_false,true_and,and_true,false_and,and_false,true_or,or_true,false_or,or_false,Bool.false_eq_true,decide_true,decide_false]
   ·rw[fL (x:=i-1) (by omega)]
    refine Ev.ret (.inl ⟨rfl,s1.left,by omega,i-1,s1,fy,_,_,_,_,_,_,_,_,_,_,_,_,_,_,_,_,rfl,fv,rfl,by omega,by omega,?_⟩)
    rw[E];simp only[if_neg h2]
  ·exact Ev.ret (.inr ⟨by simp,sx,_,hj,out (.inr h1),.inl ⟨rfl,rfl⟩,_,_,_,_,_,_,_,_,_,_,_,_,_,_,_,_,_,rfl⟩)
 ·rintro e vs H1 ⟨sx,u,hj,E,hu,x6,x7,bl,aC,bS,bR,aO,cL,aN,dz,fC,aI,iM,fD,aM,ga,fP,hv⟩;simp only at hv hu hj;subst hv;rcases hu with⟨rfl,rfl⟩|⟨rfl,e1,e2⟩
  ·simp -implicitDefEqProofs only[AD,rX,sS,Nat.reduceAdd];exact Ev.ret (jW.of hj E)
  ·simp only[List.getElem?_cons_succ,List.getElem?_cons_zero,Option.some.injEq] at e1 e2;subst e1 e2;show Ev (λ_=>some (Value.tuple #[cv d,cv u],H1)) _
   exact Ev.ret (jW.of hj E)
theorem Eg (h:JX K p st H){a k d z:Int}{f:Nat}{i:Int}(hz:2≤z∧z≤65536)(hi:1≤i∧i≤65537)(hf:st.left≤f){t:Y.Tr (Int×Int)}{Ou:Y.St}(E:Y.ah t Ou=Y.ah (Y.KY a k z f i >>= λi=>pure (d,i)) st){x6 x7 bl aC bS bR aO cL aN dz fC aI iM fD ga fP:Value}:
  Ev (λn=>cd (iter n (vr (run G n) n) [pv p,cv a,cv k,x6,x7,cv d,cv z,bl,aC,bS,bR,aO,cL,aN,dz,fC,aI,iM,fD,(cv i),ga,fP] H) (dG 2 (dM (vt (run G n) n) (dX Tryz.prog [.tmp 6,.tmp 7] [0,1,2,6,7,8,9,21,10,29,32,11,41,12,56,68,13,79,88,14,103,112])))) λr=>jW K p Ou t r.1 r.2:=by
 refine Ev.loop (k:=st.left) (λk' vs Hx=>∃(i:Int) (sx:Y.St) (f:Nat) (x6 x7 bl aC bS bR aO cL aN dz fC aI iM fD ga fP:Value),vs=[pv p,cv a,cv k,x6,x7,cv d,cv z,bl,aC,bS,bR,aO,cL,aN,dz,fC,aI,iM,fD,cv i,ga,fP]∧JX K p sx Hx∧k'=sx.left∧sx.left≤f∧(1≤i∧i≤65537)∧Y.ah t Ou=Y.ah (Y.KY a k z f i >>= λi=>pure (d,i)) sx)
  (λr=>∃(sx:Y.St) (u:Int),JX K p sx r.2.2∧Y.ah t Ou=((d,u),sx)∧((r.1= .exit 2∧u=z-1)∨(r.1= .ret∧r.2.1[3]? =some (cv d)∧r.2.1[4]? =some (cv u)))∧∃(x6 x7 bl aC bS bR aO cL aN dz fC aI iM fD aM ga fP:Value),r.2.1=[pv p,cv a,cv k,x6,x7,cv d,cv z,bl,aC,bS,bR,aO,cL,aN,dz,fC,aI,iM,fD,aM,ga,fP]) ⟨i,st,f,_,_,_,_,_,_,_,_,_,_,_,_,_,_,_,_,rfl,h,rfl,hf,hi,E⟩ ?_ ?_
 ·rintro k' vs Hx ⟨i,sx,f,x6,x7,bl,aC,bS,bR,aO,cL,aN,dz,fC,aI,iM,fD,ga,fP,rfl,hj,rfl,hf,hi,E⟩;simp -implicitDefEqProofs only[AE,rY,sS,Nat.reduceAdd];have out:(sx.off=true∨¬i<z)→Y.ah t Ou=((d,z-1),sx):=by
   intro hn;rw[E,RW hn];rfl
  refine Ev.lss (λh1=>?_) (λh1=>?_)<;>try simp -implicitDefEqProofs only[sS,Nat.reduceAdd]
  ·refine Ev.nW hj (λhq=>?_) (λhq=>?_)<;>try simp -implicitDefEqProofs only[sS,Nat.reduceAdd]
   ·exact Ev.ret (.inr ⟨by simp,sx,_,hj,out (.inl hq),.inl ⟨rfl,rfl⟩,_,_,_,_,_,_,_,_,_,_,_,_,_,_,_,_,_,rfl⟩)
   refine Ev.is (pB _ _) ?_;refine Ev.eS (cX hj _) λq s1 H1 e1 fv=>?_
   have l1:=dj e1;have l2:=iE hq;obtain⟨fy,rfl⟩: ∃fy,f=fy+1:=⟨f-1,by omega⟩
   rw[Xb hq h1,Y.ak,e1] at E
   try simp -implicitDefEqProofs only[sS,Nat.reduceAdd]
   refine Ev.gtr (λh2=>?_) (λh2=>?_)<;>try simp -implicitDefEqProofs only[sS,Nat.reduceAdd]
   ·try rw[fL (x:=i-1) (by omega)]
    refine Ev.ret (.inr ⟨by simp,s1,i-1,fv,?_,.inr ⟨rfl,rfl,rfl⟩,_,_,_,_,_,_,_,_,_,_,_,_,_,_,_,_,_,rfl⟩)
    rw[E];simp only[if_pos h2,Y.ak,bk,bH,bL,cR,cS,ne_eq,not_true_eq_false,not_false_eq_true,if_true,if_false,Bool.not_true,Bool.not_false,true_and,and_true,false_and,and_false,true_or,or_true,false_or,or_false,Bool.false_eq_true,decide_true,decide_false]
   ·rw[fL (x:=i+1) (by omega)]
    refine Ev.ret (.inl ⟨rfl,s1.left,by omega,i+1,s1,fy,_,_,_,_,_,_,_,_,_,_,_,_,_,_,_,_,rfl,fv,rfl,by omega,by omega,?_⟩)
    rw[E];simp only[if_neg h2]
  ·exact Ev.ret (.inr ⟨by simp,sx,_,hj,out (.inr h1),.inl ⟨rfl,rfl⟩,_,_,_,_,_,_,_,_,_,_,_,_,_,_,_,_,_,rfl⟩)
 ·rintro e vs H1 ⟨sx,u,hj,E,hu,x6,x7,bl,aC,bS,bR,aO,cL,aN,dz,fC,aI,iM,fD,aM,ga,fP,hv⟩;simp only at hv hu hj;subst hv;rcases hu with⟨rfl,rfl⟩|⟨rfl,e1,e2⟩
  ·simp -implicitDefEqProofs only[AF,rZ,sS,Nat.reduceAdd];rw[fL (x:=z-1) (by omega)]
   exact Ev.ret (jW.of hj E)
  ·simp only[List.getElem?_cons_succ,List.getElem?_cons_zero,Option.some.injEq] at e1 e2;subst e1 e2;show Ev (λ_=>some (Value.tuple #[cv d,cv u],H1)) _
   exact Ev.ret (jW.of hj E)
theorem Lc {a b c m:Int}(h: ¬Y.ig a b c m<1):2≤m∧m≤65536∧Y.ig a b c m≤m:=by
 have h1:2≤m∧m≤65536:=by
  refine Decidable.byContradiction λhn=>h ?_
  unfold Y.ig;rw[if_pos (by omega)];decide
 exact⟨h1.1,h1.2,Y.Ec h1.1⟩
theorem RX (h:JX K p st H){f:Nat}(hf:st.left≤f)(a k:Int):aE (run G) 117 [pv p,cv a,cv k] H (jW K p st (Y.kW f a k)):=by
 refine Ev.up (t:=λn=>NN (run G n) n (pv p) (cv a) (cv k) H) ?_ λn=>HI ..
 simp -implicitDefEqProofs only[NN,sS,Nat.reduceAdd];refine Ev.eS (cX h a) λd s1 H1 e1 fv=>?_
 try simp -implicitDefEqProofs only[sS,Nat.reduceAdd,cI]
 refine Ev.lss (λh1=>?_) (λh1=>?_)<;>try simp -implicitDefEqProofs only[sS,Nat.reduceAdd,cI]
 ·refine Ev.ret (jW.of fv ?_);simp only[Y.kW,Y.ak,bk,bH,bL,cR,cS,ne_eq,not_true_eq_false,not_false_eq_true,if_true,if_false,Bool.not_true,Bool.not_false,true_and,and_true,false_and,and_false,true_or,or_true,false_or,or_false,Bool.false_eq_true,decide_true,decide_false, *]
 refine Ev.is (pB _ _) ?_;refine Ev.eS (cX fv _) λq2 s2 H2 e2 fH=>?_
 try simp -implicitDefEqProofs only[sS,Nat.reduceAdd,cI]
 refine Ev.lss (λh2=>?_) (λh2=>?_)<;>try simp -implicitDefEqProofs only[sS,Nat.reduceAdd,cI]
 ·refine Ev.ret (jW.of fH ?_);simp only[Y.kW,Y.ak,bk,bH,bL,cR,cS,ne_eq,not_true_eq_false,not_false_eq_true,if_true,if_false,Bool.not_true,Bool.not_false,true_and,and_true,false_and,and_false,true_or,or_true,false_or,or_false,Bool.false_eq_true,decide_true,decide_false, *]
 refine Ev.eql (λh3=>?_) (λh3=>?_)<;>try simp -implicitDefEqProofs only[sS,Nat.reduceAdd,cI]
 ·refine Ev.ret (jW.of fH ?_);simp only[Y.kW,Y.ak,bk,bH,bL,cR,cS,ne_eq,not_true_eq_false,not_false_eq_true,if_true,if_false,Bool.not_true,Bool.not_false,true_and,and_true,false_and,and_false,true_or,or_true,false_or,or_false,Bool.false_eq_true,decide_true,decide_false, *];simp only[Int.lt_irrefl,if_false,if_true,e2,h2,Y.ak,bk,bH,bL,cR,cS,ne_eq,not_true_eq_false,not_false_eq_true,if_true,if_false,Bool.not_true,Bool.not_false,true_and,and_true,false_and,and_false,true_or,or_true,false_or,or_false,Bool.false_eq_true,decide_true,decide_false]
 refine Ev.is (pB _ _) ?_;refine Ev.eS (cX fH _) λq3 s3 H3 e3 gA=>?_
 try simp -implicitDefEqProofs only[sS,Nat.reduceAdd,cI]
 refine Ev.geq (λh4=>?_) (λh4=>?_)<;>try simp -implicitDefEqProofs only[sS,Nat.reduceAdd,cI]
 ·refine Ev.ret (jW.of gA ?_);simp only[Y.kW,Y.ak,bk,bH,bL,cR,cS,ne_eq,not_true_eq_false,not_false_eq_true,if_true,if_false,Bool.not_true,Bool.not_false,true_and,and_true,false_and,and_false,true_or,or_true,false_or,or_false,Bool.false_eq_true,decide_true,decide_false, *]
 refine Ev.is (RV _ _ _ _) ?_
 try simp -implicitDefEqProofs only[sS,Nat.reduceAdd,cI]
 have B:Y.ah (Y.kW f a k) st=Y.ah (if s3.off=true∨Y.ig q2 q3 k (Y.wr (d-1))<1 then pure (d,0) else do
   let down ←(if Y.ig q2 q3 k (Y.wr (d-1))>1 then do
     let z ←Y.rd (Y.lC a (Y.ig q2 q3 k (Y.wr (d-1))))
     pure (decide (z>k))
    else pure false)
   if down then
    let i ←Y.mF a k f (Y.ig q2 q3 k (Y.wr (d-1))-1)
    pure (d,i)
   else
    let i ←Y.KY a k (Y.wr (d-1)) f (Y.ig q2 q3 k (Y.wr (d-1))+1)
    pure (d,i)) s3:=by
  simp only[Y.kW,Y.ak,bk,bH,bL,cR,cS,ne_eq,not_true_eq_false,not_false_eq_true,if_true,if_false,Bool.not_true,Bool.not_false,true_and,and_true,false_and,and_false,true_or,or_true,false_or,or_false,Bool.false_eq_true,decide_true,decide_false,h1,h2,h3,h4,e1,e2,e3];rfl
 have l1:=dj e1;have l2:=dj e2;have l3:=dj e3;have gp:=@Lc q2 q3 k (Y.wr (d-1));generalize Y.ig q2 q3 k (Y.wr (d-1))=j at*
 generalize Y.wr (d-1)=m at*
 refine Ev.nW gA (λhq=>?_) (λhq=>?_)<;>try simp -implicitDefEqProofs only[sS,Nat.reduceAdd,cI]
 ·refine Ev.ret (jW.of gA ?_);rw[B,if_pos (.inl hq)];rfl
 refine Ev.lss (λh5=>?_) (λh5=>?_)<;>try simp -implicitDefEqProofs only[sS,Nat.reduceAdd,cI]
 ·refine Ev.ret (jW.of gA ?_);rw[B,if_pos (.inr h5)];rfl
 obtain⟨g1,g2,g3⟩:=gp h5;rw[if_neg (by rw[hq];simp;omega)] at B
 refine Ev.gtr (λh6=>?_) (λh6=>?_)<;>try simp -implicitDefEqProofs only[sS,Nat.reduceAdd,cI]
 ·refine Ev.is (pB _ _) ?_;refine Ev.eS (cX gA _) λq4 s4 H4 e4 iW=>?_
  have l4:=dj e4;rw[if_pos h6] at B;simp only[Y.bind_assoc] at B
  try simp -implicitDefEqProofs only[sS,Nat.reduceAdd,cI]
  refine Ev.gtr (λh7=>?_) (λh7=>?_)<;>try simp -implicitDefEqProofs only[sS,Nat.reduceAdd,cI]
  ·have e5:Y.wr (j-1)=j-1:=by unfold Y.wr;omega
   try rw[e5]
   exact F1 iW (f:=f) (i:=j-1) (z:=m) (d:=d) (a:=a) (k:=k) ⟨g1,g2⟩ (by omega) (by omega) (by rw[B,Y.aJ e4];simp only[h7,decide_true,Y.bind_pure,if_true])
  ·have e5:Y.wr (j+1)=j+1:=by unfold Y.wr;omega
   rw[e5];exact Eg iW (f:=f) (i:=j+1) (z:=m) (d:=d) (a:=a) (k:=k) ⟨g1,g2⟩ (by omega) (by omega) (by rw[B,Y.aJ e4];simp only[h7,decide_false,Y.bind_pure,if_false,Bool.false_eq_true])
 ·have e5:Y.wr (j+1)=j+1:=by unfold Y.wr;omega
  try rw[e5]
  rw[if_neg h6] at B;exact Eg gA (f:=f) (i:=j+1) (z:=m) (d:=d) (a:=a) (k:=k) ⟨g1,g2⟩ (by omega) (by omega) (by rw[B];simp only[Y.bind_pure,if_false,Bool.false_eq_true])
theorem RY (h:JX K p st H){f:Nat}(hf:st.left≤f)(a k:Int):aE (run G) 144 [pv p,cv a,cv k] H (oP K p st (Y.nt f a k)):=by
 refine Ev.up (t:=λn=>M9 (run G n) n (pv p) (cv a) (cv k) H) ?_ λn=>G8 ..
 simp -implicitDefEqProofs only[M9,sS,Nat.reduceAdd];refine Ev.ZN (RX h hf a k) λd c s1 H1 e1 fv=>?_
 try simp -implicitDefEqProofs only[sS,Nat.reduceAdd]
 refine Ev.is (kK _ _ _) ?_
 try simp -implicitDefEqProofs only[sS,Nat.reduceAdd]
 refine Ev.ret (oP.of fv ?_);simp only[Y.nt,Y.ak,bk,bH,bL,cR,cS,ne_eq,not_true_eq_false,not_false_eq_true,if_true,if_false,Bool.not_true,Bool.not_false,true_and,and_true,false_and,and_false,true_or,or_true,false_or,or_false,Bool.false_eq_true,decide_true,decide_false,e1]
end
section
open Go.Proofs.YtgfgglponbmgmaaGreatA
variable {G:ae} {H H':aa} {o o':aj} {p:Nat} {K:aa→aj→Prop} {st LV s1:Y.St} {α β:Type}
theorem AV {a z:Int}{f:Nat}{s s':Y.St}(e:Y.ah (Y.kr f a) s=(z,s')):s'.left≤s.left-1:=by
 unfold Y.kr at e;rw[Y.ak] at e;have h1:(Y.ah (Y.rd a) s).2.left=s.left-1:=dj rfl;have h2:=dk e;omega
theorem Ld {a z:Int}{s s':Y.St}(e:Y.ah (Y.sd a) s=(z,s')):s'.left≤s.left-1:=by
 unfold Y.sd at e;rw[Y.ak] at e;have h1:(Y.ah (Y.rd a) s).2.left=s.left-1:=dj rfl;have h2:=dk e;omega
theorem JX.left (h:JX K p st H):st.left≤1048577:=by
 obtain⟨hK,o,⟨tape,w,T,W,i,nk,na,nx,ny,ty,g,ho,ht,hT,hw,hi,hr,_⟩,hk⟩:=h;unfold Y.St.left;split
 ·omega
 ·rw[hr];simp;omega
theorem AW {n d i all:Int}{f:Nat}{s:Y.St}{g:Int→Y.Tr β}(h:s.off=true∨¬i<d):Y.ah (Y.ir f n d i all >>= g) s=Y.ah (g all) s:=by
 cases f with
 |zero=>unfold Y.ir;rfl
 |succ f=>
  rw[Y.ak];unfold Y.ir;by_cases h1:i<d
  ·rw[if_neg (by omega)]
   have h2:=h.resolve_right (λx=>x h1)
   simp only[Y.ak,bk,bH,bL,cR,cS,ne_eq,not_true_eq_false,not_false_eq_true,if_true,if_false,Bool.not_true,Bool.not_false,true_and,and_true,false_and,and_false,true_or,or_true,false_or,or_false,Bool.false_eq_true,decide_true,decide_false,h2]
  ·rw[if_pos h1];rfl
theorem Ov {n d i all:Int}{f:Nat}{s:Y.St}{g:Int→Y.Tr β}(h:s.off=false)(h1:i<d):Y.ah (Y.ir (f+1) n d i all >>= g) s=Y.ah (Y.kr f (Y.dh n d i) >>= λw=>
  (if Y.kd w=2 then Y.ir f n d (i+1) (Y.wr (all+1)) else
  if Y.kd w=3 then Y.jV f (Y.aw w) >>= λz=>Y.ir f n d (i+1) (Y.wr (all+z))
  else if Y.kd w=4 then Y.rd (Y.aw w) >>= λt=>Y.jV f (Y.aw t) >>= λz=>Y.ir f n d (i+1) (Y.wr (all+z))
  else Y.ir f n d (i+1) all) >>= g) s:=by
 rw[Y.ak]
 conv=>lhs;unfold Y.ir
 rw[if_neg (by omega)]
 simp only[Y.ak,bk,bH,bL,cR,cS,ne_eq,not_true_eq_false,not_false_eq_true,if_true,if_false,Bool.not_true,Bool.not_false,true_and,and_true,false_and,and_false,true_or,or_true,false_or,or_false,Bool.false_eq_true,decide_true,decide_false,h]
theorem Xc: ∀(f:Nat) {st:Y.St} {H:aa},JX K p st H→st.left≤f→∀{a:Int},(-9223372036854775808≤a∧a≤65536)→aE (run G) 121 [pv p,cv a] H (oP K p st (Y.jV (f+1) a)):=by
 intro f;induction f using Nat.strongRecOn with
 |ind f ih=>
 intro st H h hf a ha;have w4: ∀{j:Int},0≤j∧j≤8→IntKind.i64.wrap (a+j)=a+j:=λhj=>by rw[fL (by omega)]
 refine Ev.up (t:=λn=>WT (run G n) n (pv p) (cv a) H) ?_ λn=>Rv ..
 simp -implicitDefEqProofs only[WT,sS,Nat.reduceAdd,w4 (j:=4) (by omega)]
 refine Ev.eS (cX h _) λq1 s1 H1 e1 fv=>?_
 try simp -implicitDefEqProofs only[sS,Nat.reduceAdd]
 refine Ev.neq (λh1=>?_) (λh1=>?_)<;>try simp -implicitDefEqProofs only[sS,Nat.reduceAdd,cI]
 ·refine Ev.ret (oP.of fv ?_);unfold Y.jV;simp only[Y.ak,bk,bH,bL,cR,cS,ne_eq,not_true_eq_false,not_false_eq_true,if_true,if_false,Bool.not_true,Bool.not_false,true_and,and_true,false_and,and_false,true_or,or_true,false_or,or_false,Bool.false_eq_true,decide_true,decide_false, *]
 rw[←cI,w4 (j:=2) (by omega)]
 refine Ev.Yu (Cx fv _ _) λv u s2 H2 e2 fH=>?_
 try simp -implicitDefEqProofs only[sS,Nat.reduceAdd]
 refine Ev.eS (cX fH _) λd s3 H3 e3 gA=>?_
 try simp -implicitDefEqProofs only[sS,Nat.reduceAdd]
 have l1:=dj e1;have l2:=dk e2;have l3:=dj e3;have Yv:=h.left;have B:Y.ah (Y.jV (f+1) a) st=Y.ah (Y.ir f a d 0 0 >>= λall=>Y.wt (a+4) (Y.wr (all+1)) >>= λ_=>pure all) s3:=by
  conv=>lhs;unfold Y.jV
  simp only[Y.ak,bk,bH,bL,cR,cS,ne_eq,not_true_eq_false,not_false_eq_true,if_true,if_false,Bool.not_true,Bool.not_false,true_and,and_true,false_and,and_false,true_or,or_true,false_or,or_false,Bool.false_eq_true,decide_true,decide_false,e1,e2,e3,h1]
 have hinv:s3.left+1≤f∨s3.off=true:=by
  by_cases ho:s3.off=true
  ·exact .inr ho
  ·have:1≤s3.left:=iE (by simpa using ho)
   exact .inl (by omega)
 refine Ev.loop (k:=s3.left) (λk vs Hx=>∃(i s:Int) (sx:Y.St) (fx:Nat) (x4 x5 aW bP x9 dv cQ dR aC fh:Value),vs=[pv p,cv a,x4,x5,aW,cv i,cv d,bP,x9,dv,cQ,cv s,dR,aC,fh]∧JX K p sx Hx∧k=sx.left∧fx≤f∧(sx.left+1≤fx∨sx.off=true)∧0≤i∧i+sx.left≤st.left∧Y.ah (Y.jV (f+1) a) st=Y.ah (Y.ir fx a d i s >>= λall=>Y.wt (a+4) (Y.wr (all+1)) >>= λ_=>pure all) sx)
  (λr=>r.1= .exit 0∧∃(i s:Int) (sx:Y.St) (x4 x5 aW bP x9 dv cQ dR aC fh:Value),r.2.1=[pv p,cv a,x4,x5,aW,cv i,cv d,bP,x9,dv,cQ,cv s,dR,aC,fh]∧JX K p sx r.2.2∧Y.ah (Y.jV (f+1) a) st=Y.ah (Y.wt (a+4) (Y.wr (s+1)) >>= λ_=>pure s) sx) ⟨0,0,s3,f,_,_,_,_,_,_,_,_,_,_,rfl,gA,rfl,Nat.le_refl _,hinv,by omega,by omega,B⟩ ?_ ?_
 ·rintro k vs Hx ⟨i,s,sx,fx,x4,x5,aW,bP,x9,dv,cQ,dR,aC,fh,rfl,hj,rfl,W8,pd,hi,Yt,E⟩;simp -implicitDefEqProofs only[KJ,yn,sS,Nat.reduceAdd];refine Ev.lss (λh2=>?_) (λh2=>?_)<;>try simp -implicitDefEqProofs only[sS,Nat.reduceAdd]
  ·refine Ev.nW hj (λhq=>?_) (λhq=>?_)<;>try simp -implicitDefEqProofs only[sS,Nat.reduceAdd]
   ·rw[AW (.inl hq)] at E;exact Ev.ret (.inr ⟨by simp,rfl,i,s,sx,_,_,_,_,_,_,_,_,_,_,rfl,hj,E⟩)
   have l4:=iE hq;have Ow:sx.left+1≤fx:=pd.resolve_right (by rw[hq];simp)
   obtain⟨fy,rfl⟩: ∃fy,fx=fy+2:=⟨fx-2,by omega⟩
   rw[Ov hq h2] at E;refine Ev.is (kK _ _ _) ?_;refine Ev.eS (FV hj (f:=fy+1) (by omega) _) λw t1 G1 f1 k1=>?_
   have m1:=AV f1;rw[Y.aJ f1] at E
   try simp -implicitDefEqProofs only[sS,Nat.reduceAdd]
   refine Ev.is (nX _) ?_
   try simp -implicitDefEqProofs only[sS,Nat.reduceAdd]
   refine Ev.is (gV _) ?_
   try simp -implicitDefEqProofs only[sS,Nat.reduceAdd]
   have wi:IntKind.i64.wrap (i+1)=i+1:=fL (by omega)
   have RZ: ∀{s':Int} {sy:Y.St} {Hy:aa} {x4 x5 aW bP x9 dv cQ dR aC fh:Value},JX K p sy Hy→sy.left≤sx.left-1→Y.ah (Y.jV (f+1) a) st=Y.ah (Y.ir (fy+1) a d (i+1) s' >>= λall=>Y.wt (a+4) (Y.wr (all+1)) >>= λ_=>pure all) sy→
     Ev (λn=>px (run G n) n [pv p,cv a,x4,x5,aW,cv i,cv d,bP,x9,dv,cQ,cv s',dR,aC,fh] Hy) λr=>(r.1= .normal∧∃k',k'<sx.left∧∃(i s:Int) (sx:Y.St) (fx:Nat) (x4 x5 aW bP x9 dv cQ dR aC fh:Value),r.2.1=[pv p,cv a,x4,x5,aW,cv i,cv d,bP,x9,dv,cQ,cv s,dR,aC,fh]∧JX K p sx r.2.2∧k'=sx.left∧fx≤f∧(sx.left+1≤fx∨sx.off=true)∧0≤i∧i+sx.left≤st.left∧Y.ah (Y.jV (f+1) a) st=Y.ah (Y.ir fx a d i s >>= λall=>Y.wt (a+4) (Y.wr (all+1)) >>= λ_=>pure all) sx)∨(r.1≠ .normal∧r.1= .exit 0∧∃(i s:Int) (sx:Y.St) (x4 x5 aW bP x9 dv cQ dR aC fh:Value),r.2.1=[pv p,cv a,x4,x5,aW,cv i,cv d,bP,x9,dv,cQ,cv s,dR,aC,fh]∧JX K p sx r.2.2∧Y.ah (Y.jV (f+1) a) st=Y.ah (Y.wt (a+4) (Y.wr (s+1)) >>= λ_=>pure s) sx):=by
    intro s' sy Hy x4 x5 aW bP x9 dv cQ dR aC fh hy ly Ey;simp -implicitDefEqProofs only[KI,ym,sS,Nat.reduceAdd,wi];exact Ev.ret (.inl ⟨rfl,sy.left,by omega,i+1,s',sy,fy+1,_,_,_,_,_,_,_,_,_,_,rfl,hy,rfl,by omega,.inl (by omega),by omega,by omega,Ey⟩)
   refine Ev.eql (λk2=>?_) (λk2=>?_)<;>try simp -implicitDefEqProofs only[sS,Nat.reduceAdd,cI]
   ·rw[if_pos k2] at E;exact RZ k1 m1 E
   refine Ev.eql (λk3=>?_) (λk3=>?_)<;>try simp -implicitDefEqProofs only[sS,Nat.reduceAdd,cI]
   ·rw[if_neg k2,if_pos k3] at E;refine Ev.eS (ih fy (by omega) k1 (by omega) (nM _)) λz t2 G2 f2 Z9=>?_
    have m2:=dk f2;simp only[Y.bind_assoc] at E;rw[Y.aJ f2] at E
    try simp -implicitDefEqProofs only[sS,Nat.reduceAdd,cI]
    exact RZ Z9 (by omega) E
   refine Ev.eql (λk4=>?_) (λk4=>?_)<;>try simp -implicitDefEqProofs only[sS,Nat.reduceAdd,cI]
   ·rw[if_neg k2,if_neg k3,if_pos k4] at E;refine Ev.eS (cX k1 _) λtt t2 G2 f2 Z9=>?_
    have m2:=dj f2;simp only[Y.bind_assoc] at E;rw[Y.aJ f2] at E
    try simp -implicitDefEqProofs only[sS,Nat.reduceAdd,cI]
    refine Ev.is (nX _) ?_;refine Ev.eS (ih fy (by omega) Z9 (by omega) (nM _)) λz t3 G3 f3 k3'=>?_
    have m3:=dk f3;rw[Y.aJ f3] at E
    try simp -implicitDefEqProofs only[sS,Nat.reduceAdd,cI]
    exact RZ k3' (by omega) E
   ·rw[if_neg k2,if_neg k3,if_neg k4] at E;exact RZ k1 m1 E
  ·rw[AW (.inr h2)] at E;exact Ev.ret (.inr ⟨by simp,rfl,i,s,sx,_,_,_,_,_,_,_,_,_,_,rfl,hj,E⟩)
 ·rintro e vs Hx ⟨rfl,i,s,sx,x4,x5,aW,bP,x9,dv,cQ,dR,aC,fh,hv,hj,E⟩;simp only at hv hj;subst hv;simp -implicitDefEqProofs only[KK,yo,sS,Nat.reduceAdd,w4 (j:=4) (by omega)]
  refine Ev.Yu (Cx hj _ _) λv u s4 H4 e4 iW=>?_
  try simp -implicitDefEqProofs only[sS,Nat.reduceAdd]
  refine Ev.ret (oP.of iW ?_);rw[E];rw[cI] at e4;simp only[Y.ak,bk,bH,bL,cR,cS,ne_eq,not_true_eq_false,not_false_eq_true,if_true,if_false,Bool.not_true,Bool.not_false,true_and,and_true,false_and,and_false,true_or,or_true,false_or,or_false,Bool.false_eq_true,decide_true,decide_false,e4]
end
section
variable {G:ae} {H H':aa} {o o':aj} {p m c:Nat} {K:aa→aj→Prop} {t:Int} {x:Value} {l:PL}
def KO (K:aa→aj→Prop)(t:Int)(x:Value)(l:PL):aa→aj→Prop:=λH o=>K H o∧gS H o t x l
structure oS (t:Int) (p:Nat):Prop where
 ne:t≠p
 n0:t≠ -50
 n1:t≠ -51
theorem gS.fr {H H':aa}{o o':aj}{q:Int}{x:Value}{l:PL}{ps:List Int}(h:gS H o q x l)(f:Fr H o H' o' ps)(hp:q ∉ ps):gS H' o' q x l:=by
 rcases h with h|⟨i,cap,rest,ty,h1,h2,h3,h4⟩
 ·exact .inl h
 ·exact .inr ⟨i,cap,rest,ty,h1,by rw[f.same i (ar h2) (by rw[h4];exact hp)];exact h2,h3,by rw[f.own i (ar h2)];exact h4⟩
theorem bJ.ko (ht:oS t p)(h:bJ [(p:Int),t] K):bJ [(p:Int)] (KO K t x l):=λH o H' o' a f=>⟨h H o H' o' a.1 (f.wk (by simp)),gS.fr a.2 f (by simpa using ht.ne)⟩
section
variable {α:Type} {k:Nat→Value→aa→Option α} {Q:α→Prop} {a b:Int} {T ty:TypeId} {C:Nat→ae} {f:Nat} {args:List Value}
end
theorem yS (a b:Int):aF Tryz.prog 45 [(0,cv a),(1,cv b)]=some (.agg #[cv a,cv b]):=by kernel_rfl
theorem F2 (a b:Int)(H:aa):ay Tryz.prog 31 1 [(0,.agg #[cv a,cv b])] H=some (.slice (some ⟨H.length,0,none⟩) 1 1,H.new ⟨[cv a,cv b],45,2,false⟩):=by kernel_rfl
end
end Go.Proofs.YtgfgglponbmgmaaGreat.Fun
end
