/- Texts of the proof of linearCut_holds, put together by a small program of ours (names shortened, spaces taken out). No condition beyond the given statement. -/
import Derived.Test.YtjgmnoaalbbonaaGreatLCT15
import Derived.Test.YtjgmnoaalbbonaaGreatLCT16
import Derived.Test.YtjgmnoaalbbonaaGreatLCT17
import Derived.Test.YtjgmnoaalbbonaaGreatLCT18
import Derived.Test.YtjgmnoaalbbonaaGreatLCT21
import Derived.Test.YtjgmnoaalbbonaaGreatLCT22
import Derived.Test.YtjgmnoaalbbonaaGreatLCT29
set_option linter.unusedVariables false
set_option linter.unusedSimpArgs false
set_option linter.unnecessarySimpa false
noncomputable section
section
namespace Go.Proofs.YtjgmnoaalbbonaaGreat.Fun
open Go Go.RowKit Go.Proofs.YtjgmnoaalbbonaaGreatA.Am
set_option maxRecDepth 10000
section
variable {G:ae} {H H':aa} {o o':aj} {p m:Nat} {K:aa→aj→Prop}
abbrev uv (x:Int):Value:=.int .u64 x
section
variable {α:Type} {k:Nat→Value→aa→Option α} {Q:α→Prop} {t:TypeId} {a b:Int} {P:Program}
theorem Ev.Yo {op:BinOp}(Mn:op= .eql∨op= .geq)(h1:Ev (λn=>k n (.bool true) H) Q)(h2:Ev (λn=>k n (.bool false) H) Q):Ev (λn=>af (pS (ai P op t (uv a) (uv b)) H) (k n)) Q:=by
 have: ∃c:Bool,ai P op t (uv a) (uv b)=some (.bool c):=by
  rcases Mn with rfl|rfl
  ·exact⟨_,rfl⟩
  ·exact⟨_,rfl⟩
 obtain⟨c,e⟩:=this;rw[e];cases c with
 |true=>exact h1
 |false=>exact h2
end
theorem LZ (t:TypeId)(a b:Int):ai Tryz.prog .sub t (uv a) (uv b)=some (uv (IntKind.u64.wrap (a-b))):=rfl
theorem aa1 (t:TypeId)(a b:Int):ai Tryz.prog .add t (uv a) (uv b)=some (uv (IntKind.u64.wrap (a+b))):=rfl
theorem aa2 (x:Int)(H:aa):qS .u64 (cv x) H=some (uv (IntKind.u64.wrap x),H):=rfl
theorem ac1 (a b:Int)(H:aa):aae (uv a) (uv b) H=some (uv (if b<a then b else a),H):=rfl
theorem ac2 (t:TypeId)(a:Int)(b:Nat):ai Tryz.prog .shr t (cv a) (.int .u64 b)=some (cv (a.fdiv (2^min ((b:Int)).toNat 64))):=by
 show re .shr .i64 a b=_
 simp only[re];rfl
theorem T4 (a b:Int):bA (run G) 165 [cv a,cv b] H λv H'=>(∃z,v=uv z)∧H'=H:=by
 refine Ev.up (t:=λn=>XJ (run G n) n (cv a) (cv b) H) ?_ λn=>Sk ..
 simp -implicitDefEqProofs only[XJ,sS,Nat.reduceAdd,aa2,LZ];refine Ev.lss (λh1=>?_) (λh1=>?_)<;>try simp -implicitDefEqProofs only[sS,Nat.reduceAdd,aa2,LZ]
 ·exact Ev.ret ⟨⟨_,rfl⟩,rfl⟩
 ·exact Ev.ret ⟨⟨_,rfl⟩,rfl⟩
theorem SI (a b c:Int):bA (run G) 164 [uv a,uv b,cv c] H (zI H):=by
 refine Ev.up (t:=λn=>Xv (run G n) n (uv a) (uv b) (cv c) H) ?_ λn=>R9 ..
 simp -implicitDefEqProofs only[Xv,sS,Nat.reduceAdd];refine Ev.Yo (.inl rfl) ?_ ?_ <;>try simp -implicitDefEqProofs only[sS,Nat.reduceAdd]
 ·exact Ev.ret ⟨⟨_,rfl⟩,rfl⟩
 refine Ev.lss (λh1=>?_) (λh1=>?_)<;>try simp -implicitDefEqProofs only[sS,Nat.reduceAdd]
 ·exact Ev.ret ⟨⟨_,rfl⟩,rfl⟩
 refine Ev.gtr (λh1=>?_) (λh1=>?_)<;>try simp -implicitDefEqProofs only[sS,Nat.reduceAdd,ac1]
 ·exact Ev.ret ⟨⟨_,rfl⟩,rfl⟩
 refine Ev.loop (k:=17) (λk vs Hx=>∃(a b d7 d8:Int) (d24 d33 d49 d54:Value),Hx=H∧k≤17∧vs=[uv a,uv b,cv c,cv 0,.bool false,cv ((k:Int)-1),d24,cv d7,uv d8,d33,d49,d54])
  (λr=>r.1= .exit 0∧r.2.2=H∧∃(a b d7:Int) (d8 d9 d24 d33 d49 d54:Value),r.2.1=[uv a,uv b,cv c,cv 0,.bool false,d9,d24,cv d7,d8,d33,d49,d54]) ⟨_,_,_,_,_,_,_,_,rfl,by omega,rfl⟩ ?_ ?_
 ·rintro k vs Hx ⟨a,b,d7,d8,d24,d33,d49,d54,rfl,hk,rfl⟩;simp -implicitDefEqProofs only[Le,y9,sS,Nat.reduceAdd];refine Ev.geq (λhq=>?_) (λhq=>?_)<;>try simp -implicitDefEqProofs only[sS,Nat.reduceAdd,LZ]
  ·obtain⟨j,rfl⟩: ∃j,k=j+1:=⟨k-1,by omega⟩
   have eb:((j+1:Nat):Int)-1=(j:Int):=by omega
   have hw:IntKind.i64.wrap ((j:Int)-1)=(j:Int)-1:=kr (by omega)
   have kN: ∀(d7 d8:Int) (d24 d33 d49 d54:Value),Ev (λn=>tu (run G n) n [uv a,uv b,cv c,cv 0,.bool false,cv ((j+1:Nat)-1),d24,cv d7,uv d8,d33,d49,d54] Hx) λr=>(r.1= .normal∧∃k',k'<j+1∧∃(a b d7 d8:Int) (d24 d33 d49 d54:Value),r.2.2=Hx∧k'≤17∧r.2.1=[uv a,uv b,cv c,cv 0,.bool false,cv ((k':Int)-1),d24,cv d7,uv d8,d33,d49,d54])∨(r.1≠ .normal∧r.1= .exit 0∧r.2.2=Hx∧∃(a b d7:Int) (d8 d9 d24 d33 d49 d54:Value),r.2.1=[uv a,uv b,cv c,cv 0,.bool false,d9,d24,cv d7,d8,d33,d49,d54]):=by
    intro d7 d8 d24 d33 d49 d54;simp -implicitDefEqProofs only[Lc,y7,sS,Nat.reduceAdd,eb,hw];exact Ev.ret (.inl ⟨rfl,j,by omega,_,_,_,_,_,_,_,_,rfl,by omega,rfl⟩)
   have h2: ∀(d7 d8:Int) (d24 d33 d49 d54:Value),Ev (λn=>wh (run G n) n [uv a,uv b,cv c,cv 0,.bool false,cv ((j+1:Nat)-1),d24,cv d7,uv d8,d33,d49,d54] Hx) λr=>(r.1= .normal∧∃k',k'<j+1∧∃(a b d7 d8:Int) (d24 d33 d49 d54:Value),r.2.2=Hx∧k'≤17∧r.2.1=[uv a,uv b,cv c,cv 0,.bool false,cv ((k':Int)-1),d24,cv d7,uv d8,d33,d49,d54])∨(r.1≠ .normal∧r.1= .exit 0∧r.2.2=Hx∧∃(a b d7:Int) (d8 d9 d24 d33 d49 d54:Value),r.2.1=[uv a,uv b,cv c,cv 0,.bool false,d9,d24,cv d7,d8,d33,d49,d54]):=by
    intro d7 d8 d24 d33 d49 d54;simp -implicitDefEqProofs only[Ld,y8,sS,Nat.reduceAdd,eb,T0 j (by omega),ac2,QF]
    refine Ev.eql (λhq=>?_) (λhq=>?_)<;>try simp -implicitDefEqProofs only[sS,Nat.reduceAdd,LZ]
    ·have:=kN d7 d8 d24 d33 (.bool true) d54
     rw[eb] at this;exact this
    refine Ev.Yo (.inr rfl) ?_ ?_ <;>try simp -implicitDefEqProofs only[sS,Nat.reduceAdd,LZ,aa1]
    ·have:=kN (IntKind.i64.wrap (d7+1)) (IntKind.u64.wrap (d8-IntKind.u64.wrap (b-a))) d24 d33 (.bool false) (.bool true)
     rw[eb] at this;exact this
    ·have:=kN d7 (IntKind.u64.wrap (d8+a)) d24 d33 (.bool false) (.bool false)
     rw[eb] at this;exact this
   refine Ev.Yo (.inr rfl) ?_ ?_ <;>try simp -implicitDefEqProofs only[sS,Nat.reduceAdd,LZ,aa1]
   ·exact h2 _ _ _ _ _ _
   ·exact h2 _ _ _ _ _ _
  ·exact Ev.ret (.inr ⟨by simp,rfl,rfl,_,_,_,_,_,_,_,_,_,rfl⟩)
 ·rintro e vs Hx ⟨he,rfl,a,b,d7,d8,d9,d24,d33,d49,d54,rfl⟩;simp only at he;subst he;simp -implicitDefEqProofs only[Lf,zd,sS,Nat.reduceAdd];exact Ev.ret ⟨⟨_,rfl⟩,rfl⟩
theorem de (a b c d:Int):bA (run G) 150 [cv a,cv b,cv c,cv d] H (zI H):=by
 refine Ev.up (t:=λn=>We (run G n) n (cv a) (cv b) (cv c) (cv d) H) ?_ λn=>Rq ..
 simp -implicitDefEqProofs only[We,sS,Nat.reduceAdd];repeat' (first|exact Ev.ret ⟨⟨_,rfl⟩,rfl⟩| ((with_reducible first|refine Ev.lss (λhq=>?_) (λhq=>?_)|refine Ev.gtr (λhq=>?_) (λhq=>?_)|refine Ev.leq (λhq=>?_) (λhq=>?_)|refine Ev.geq (λhq=>?_) (λhq=>?_)|refine Ev.eql (λhq=>?_) (λhq=>?_)|refine Ev.neq (λhq=>?_) (λhq=>?_)|refine Ev.off ‹_› (λhq=>?_) (λhq=>?_)|refine Ev.az (dj _) λz=>?_ |refine Ev.az (gT _) λz=>?_ |refine Ev.az (cG _ _) λz=>?_ |refine Ev.az (bH _ _ _) λz=>?_ |refine Ev.az (hX _ _) λz=>?_ |refine Ev.az (cX _) λz=>?_ |refine Ev.az (de _ _ _ _) λz=>?_ |refine Ev.num (cE ‹_› _) λz Hz mz hj hm=>?_ |refine Ev.num (eM ‹_› _ _) λz Hz mz hj hm=>?_ |refine Ev.bool (eN ‹_› _ _ _) λz Hz mz hj hm=>?_ |refine Ev.un (cz ‹_› _ _) λz Hz mz hj hm=>?_ |refine Ev.dq (dc ‹_›) λz zb Hz mz hj hm=>?_ |refine Ev.br (λhq=>?_) (λhq=>?_))<;>try simp -implicitDefEqProofs only[sS,Nat.reduceAdd]))
 all_goals
  refine Ev.call (T4 _ _) ?_;rintro v H' ⟨⟨z1,rfl⟩,rfl⟩;refine Ev.call (T4 _ _) ?_;rintro v H' ⟨⟨z2,rfl⟩,rfl⟩
  try simp -implicitDefEqProofs only[sS,Nat.reduceAdd]
  refine Ev.az (SI _ _ _) λz=>?_
  try simp -implicitDefEqProofs only[sS,Nat.reduceAdd]
  exact Ev.ret ⟨⟨_,rfl⟩,rfl⟩
theorem df (h:J K p m H)(a k:Int):bA (run G) 134 [pv p,cv a,cv k] H (SG K p (m-1)):=by
 refine Ev.up (t:=λn=>VD (run G n) n (pv p) (cv a) (cv k) H) ?_ λn=>QW ..
 simp -implicitDefEqProofs only[VD,sS,Nat.reduceAdd];have L5: ∀(d z:Int) (x6 x7 bg aG cy cr aN dM aK eU jg aJ mG iN aP iZ kt:Value) (m1:Nat) (H1:aa),J K p m1 H1→m1≤m-1→(∃i,aP=cv i)→
   Ev (λn=>cN (iter n (CD (run G n) n) [pv p,cv a,cv k,x6,x7,cv d,cv z,bg,aG,cy,cr,aN,dM,aK,eU,jg,aJ,mG,iN,aP,iZ,kt] H1) (dK 2 (dT (CE (run G n) n) (eG Tryz.prog [.tmp 6,.tmp 7] [0,1,2,6,7,8,9,21,10,29,32,11,41,12,56,68,13,79,88,14,103,112])))) λr=>SG K p (m-1) r.1 r.2:=by
  rintro d z x6 x7 bg aG cy cr aN dM aK eU jg aJ mG iN aP iZ kt m1 H1 kc Jd ⟨i,rfl⟩;refine Ev.BA (λvs=>∃(i:Int) (x6 x7 bg aG cy cr aN dM aK eU jg aJ mG iN iZ kt:Value),vs=[pv p,cv a,cv k,x6,x7,cv d,cv z,bg,aG,cy,cr,aN,dM,aK,eU,jg,aJ,mG,iN,cv i,iZ,kt])
   (λe vs=>(e= .exit 2∨(e= .ret∧∃u,vs[3]? =some (cv d)∧vs[4]? =some (cv u)))∧∃(x6 x7 bg aG cy cr aN dM aK eU jg aJ mG iN aP iZ kt:Value),vs=[pv p,cv a,cv k,x6,x7,cv d,cv z,bg,aG,cy,cr,aN,dM,aK,eU,jg,aJ,mG,iN,aP,iZ,kt]) kc ⟨_,_,_,_,_,_,_,_,_,_,_,_,_,_,_,_,_,rfl⟩ ?_ ?_
  ·rintro m1 vs H1 hj hm ⟨i,x6,x7,bg,aG,cy,cr,aN,dM,aK,eU,jg,aJ,mG,iN,iZ,kt,rfl⟩;simp -implicitDefEqProofs only[J3,xS,sS,Nat.reduceAdd];repeat' (first|exact Ev.ret (.inl ⟨rfl,⟨_,by assumption,by omega⟩,_,_,_,_,_,_,_,_,_,_,_,_,_,_,_,_,_,rfl⟩)|exact Ev.ret (.inr ⟨by simp,⟨_,by assumption,by omega⟩,.inl rfl,_,_,_,_,_,_,_,_,_,_,_,_,_,_,_,_,_,rfl⟩)|exact Ev.ret (.inr ⟨by simp,⟨_,by assumption,by omega⟩,.inr ⟨rfl,_,rfl,rfl⟩,_,_,_,_,_,_,_,_,_,_,_,_,_,_,_,_,_,rfl⟩)| ((with_reducible first|refine Ev.lss (λhq=>?_) (λhq=>?_)|refine Ev.gtr (λhq=>?_) (λhq=>?_)|refine Ev.leq (λhq=>?_) (λhq=>?_)|refine Ev.geq (λhq=>?_) (λhq=>?_)|refine Ev.eql (λhq=>?_) (λhq=>?_)|refine Ev.neq (λhq=>?_) (λhq=>?_)|refine Ev.off ‹_› (λhq=>?_) (λhq=>?_)|refine Ev.az (dj _) λz=>?_ |refine Ev.az (gT _) λz=>?_ |refine Ev.az (cG _ _) λz=>?_ |refine Ev.az (bH _ _ _) λz=>?_ |refine Ev.az (hX _ _) λz=>?_ |refine Ev.az (cX _) λz=>?_ |refine Ev.az (de _ _ _ _) λz=>?_ |refine Ev.num (cE ‹_› _) λz Hz mz hj hm=>?_ |refine Ev.num (eM ‹_› _ _) λz Hz mz hj hm=>?_ |refine Ev.bool (eN ‹_› _ _ _) λz Hz mz hj hm=>?_ |refine Ev.un (cz ‹_› _ _) λz Hz mz hj hm=>?_ |refine Ev.dq (dc ‹_›) λz zb Hz mz hj hm=>?_ |refine Ev.jt (df ‹_› _ _) λz zb Hz mz hj hm=>?_ |refine Ev.br (λhq=>?_) (λhq=>?_))<;>try simp -implicitDefEqProofs only[sS,Nat.reduceAdd]))
  ·rintro e vs m2 H2 hj hm ⟨he,x6,x7,bg,aG,cy,cr,aN,dM,aK,eU,jg,aJ,mG,iN,aP,iZ,kt,rfl⟩;rcases he with rfl|⟨rfl,u,e1,e2⟩
   ·simp -implicitDefEqProofs only[J4,xT,sS,Nat.reduceAdd];repeat' (first|exact Ev.ret ⟨_,_,rfl,_,by assumption,by omega⟩| ((with_reducible first|refine Ev.lss (λhq=>?_) (λhq=>?_)|refine Ev.gtr (λhq=>?_) (λhq=>?_)|refine Ev.leq (λhq=>?_) (λhq=>?_)|refine Ev.geq (λhq=>?_) (λhq=>?_)|refine Ev.eql (λhq=>?_) (λhq=>?_)|refine Ev.neq (λhq=>?_) (λhq=>?_)|refine Ev.off ‹_› (λhq=>?_) (λhq=>?_)|refine Ev.az (dj _) λz=>?_ |refine Ev.az (gT _) λz=>?_ |refine Ev.az (cG _ _) λz=>?_ |refine Ev.az (bH _ _ _) λz=>?_ |refine Ev.az (hX _ _) λz=>?_ |refine Ev.az (cX _) λz=>?_ |refine Ev.az (de _ _ _ _) λz=>?_ |refine Ev.num (cE ‹_› _) λz Hz mz hj hm=>?_ |refine Ev.num (eM ‹_› _ _) λz Hz mz hj hm=>?_ |refine Ev.bool (eN ‹_› _ _ _) λz Hz mz hj hm=>?_ |refine Ev.un (cz ‹_› _ _) λz Hz mz hj hm=>?_ |refine Ev.dq (dc ‹_›) λz zb Hz mz hj hm=>?_ |refine Ev.jt (df ‹_› _ _) λz zb Hz mz hj hm=>?_ |refine Ev.br (λhq=>?_) (λhq=>?_))<;>try simp -implicitDefEqProofs only[sS,Nat.reduceAdd]))
   ·simp only[List.getElem?_cons_succ,List.getElem?_cons_zero,Option.some.injEq] at e1 e2;subst e1 e2;show Ev (λ_=>some (Value.tuple #[cv d,cv u],H2)) _
    exact Ev.ret ⟨_,_,rfl,_,hj,by omega⟩
 have L0: ∀(d z:Int) (x6 x7 bg aG cy cr aN dM aK eU jg aJ mG iN aP iZ kt:Value) (m1:Nat) (H1:aa),J K p m1 H1→m1≤m-1→(∃i,aJ=cv i)→
   Ev (λn=>cN (iter n (CA (run G n) n) [pv p,cv a,cv k,x6,x7,cv d,cv z,bg,aG,cy,cr,aN,dM,aK,eU,jg,aJ,mG,iN,aP,iZ,kt] H1) (dK 0 (dT (CC (run G n) n) (dT (HX (run G n) n) (eG Tryz.prog [.tmp 6,.tmp 7] [0,1,2,6,7,8,9,21,10,29,32,11,41,12,56,68,13,79,88,14,103,112]))))) λr=>SG K p (m-1) r.1 r.2:=by
  rintro d z x6 x7 bg aG cy cr aN dM aK eU jg aJ mG iN aP iZ kt m1 H1 kc Jd ⟨i,rfl⟩;refine Ev.BA (λvs=>∃(i:Int) (x6 x7 bg aG cy cr aN dM aK eU jg mG iN aP iZ kt:Value),vs=[pv p,cv a,cv k,x6,x7,cv d,cv z,bg,aG,cy,cr,aN,dM,aK,eU,jg,cv i,mG,iN,aP,iZ,kt])
   (λe vs=>(e= .exit 0∨(e= .ret∧∃u,vs[3]? =some (cv d)∧vs[4]? =some (cv u)))∧∃(x6 x7 bg aG cy cr aN dM aK eU jg aJ mG iN aP iZ kt:Value),vs=[pv p,cv a,cv k,x6,x7,cv d,cv z,bg,aG,cy,cr,aN,dM,aK,eU,jg,aJ,mG,iN,aP,iZ,kt]) kc ⟨_,_,_,_,_,_,_,_,_,_,_,_,_,_,_,_,_,rfl⟩ ?_ ?_
  ·rintro m1 vs H1 hj hm ⟨i,x6,x7,bg,aG,cy,cr,aN,dM,aK,eU,jg,mG,iN,aP,iZ,kt,rfl⟩;simp -implicitDefEqProofs only[JT,xN,sS,Nat.reduceAdd];repeat' (first|exact Ev.ret (.inl ⟨rfl,⟨_,by assumption,by omega⟩,_,_,_,_,_,_,_,_,_,_,_,_,_,_,_,_,_,rfl⟩)|exact Ev.ret (.inr ⟨by simp,⟨_,by assumption,by omega⟩,.inl rfl,_,_,_,_,_,_,_,_,_,_,_,_,_,_,_,_,_,rfl⟩)|exact Ev.ret (.inr ⟨by simp,⟨_,by assumption,by omega⟩,.inr ⟨rfl,_,rfl,rfl⟩,_,_,_,_,_,_,_,_,_,_,_,_,_,_,_,_,_,rfl⟩)| ((with_reducible first|refine Ev.lss (λhq=>?_) (λhq=>?_)|refine Ev.gtr (λhq=>?_) (λhq=>?_)|refine Ev.leq (λhq=>?_) (λhq=>?_)|refine Ev.geq (λhq=>?_) (λhq=>?_)|refine Ev.eql (λhq=>?_) (λhq=>?_)|refine Ev.neq (λhq=>?_) (λhq=>?_)|refine Ev.off ‹_› (λhq=>?_) (λhq=>?_)|refine Ev.az (dj _) λz=>?_ |refine Ev.az (gT _) λz=>?_ |refine Ev.az (cG _ _) λz=>?_ |refine Ev.az (bH _ _ _) λz=>?_ |refine Ev.az (hX _ _) λz=>?_ |refine Ev.az (cX _) λz=>?_ |refine Ev.az (de _ _ _ _) λz=>?_ |refine Ev.num (cE ‹_› _) λz Hz mz hj hm=>?_ |refine Ev.num (eM ‹_› _ _) λz Hz mz hj hm=>?_ |refine Ev.bool (eN ‹_› _ _ _) λz Hz mz hj hm=>?_ |refine Ev.un (cz ‹_› _ _) λz Hz mz hj hm=>?_ |refine Ev.dq (dc ‹_›) λz zb Hz mz hj hm=>?_ |refine Ev.jt (df ‹_› _ _) λz zb Hz mz hj hm=>?_ |refine Ev.br (λhq=>?_) (λhq=>?_))<;>try simp -implicitDefEqProofs only[sS,Nat.reduceAdd]))
  ·rintro e vs m2 H2 hj hm ⟨he,x6,x7,bg,aG,cy,cr,aN,dM,aK,eU,jg,aJ,mG,iN,aP,iZ,kt,rfl⟩;rcases he with rfl|⟨rfl,u,e1,e2⟩
   ·simp -implicitDefEqProofs only[JV,xQ,sS,Nat.reduceAdd];repeat' (first|exact Ev.ret ⟨_,_,rfl,_,by assumption,by omega⟩| ((with_reducible first|refine Ev.lss (λhq=>?_) (λhq=>?_)|refine Ev.gtr (λhq=>?_) (λhq=>?_)|refine Ev.leq (λhq=>?_) (λhq=>?_)|refine Ev.geq (λhq=>?_) (λhq=>?_)|refine Ev.eql (λhq=>?_) (λhq=>?_)|refine Ev.neq (λhq=>?_) (λhq=>?_)|refine Ev.off ‹_› (λhq=>?_) (λhq=>?_)|refine Ev.az (dj _) λz=>?_ |refine Ev.az (gT _) λz=>?_ |refine Ev.az (cG _ _) λz=>?_ |refine Ev.az (bH _ _ _) λz=>?_ |refine Ev.az (hX _ _) λz=>?_ |refine Ev.az (cX _) λz=>?_ |refine Ev.az (de _ _ _ _) λz=>?_ |refine Ev.num (cE ‹_› _) λz Hz mz hj hm=>?_ |refine Ev.num (eM ‹_› _ _) λz Hz mz hj hm=>?_ |refine Ev.bool (eN ‹_› _ _ _) λz Hz mz hj hm=>?_ |refine Ev.un (cz ‹_› _ _) λz Hz mz hj hm=>?_ |refine Ev.dq (dc ‹_›) λz zb Hz mz hj hm=>?_ |refine Ev.jt (df ‹_› _ _) λz zb Hz mz hj hm=>?_ |refine Ev.br (λhq=>?_) (λhq=>?_))<;>try simp -implicitDefEqProofs only[sS,Nat.reduceAdd]))
   ·simp only[List.getElem?_cons_succ,List.getElem?_cons_zero,Option.some.injEq] at e1 e2;subst e1 e2;show Ev (λ_=>some (Value.tuple #[cv d,cv u],H2)) _
    exact Ev.ret ⟨_,_,rfl,_,hj,by omega⟩
 repeat' (first|exact Ev.ret ⟨_,_,rfl,_,by assumption,by omega⟩|exact L5 _ _ _ _ _ _ _ _ _ _ _ _ _ _ _ _ _ _ _ _ _ ‹_› (by omega) ⟨_,rfl⟩|exact L0 _ _ _ _ _ _ _ _ _ _ _ _ _ _ _ _ _ _ _ _ _ ‹_› (by omega) ⟨_,rfl⟩| ((with_reducible first|refine Ev.lss (λhq=>?_) (λhq=>?_)|refine Ev.gtr (λhq=>?_) (λhq=>?_)|refine Ev.leq (λhq=>?_) (λhq=>?_)|refine Ev.geq (λhq=>?_) (λhq=>?_)|refine Ev.eql (λhq=>?_) (λhq=>?_)|refine Ev.neq (λhq=>?_) (λhq=>?_)|refine Ev.off ‹_› (λhq=>?_) (λhq=>?_)|refine Ev.az (dj _) λz=>?_ |refine Ev.az (gT _) λz=>?_ |refine Ev.az (cG _ _) λz=>?_ |refine Ev.az (bH _ _ _) λz=>?_ |refine Ev.az (hX _ _) λz=>?_ |refine Ev.az (cX _) λz=>?_ |refine Ev.az (de _ _ _ _) λz=>?_ |refine Ev.num (cE ‹_› _) λz Hz mz hj hm=>?_ |refine Ev.num (eM ‹_› _ _) λz Hz mz hj hm=>?_ |refine Ev.bool (eN ‹_› _ _ _) λz Hz mz hj hm=>?_ |refine Ev.un (cz ‹_› _ _) λz Hz mz hj hm=>?_ |refine Ev.dq (dc ‹_›) λz zb Hz mz hj hm=>?_ |refine Ev.jt (df ‹_› _ _) λz zb Hz mz hj hm=>?_ |refine Ev.br (λhq=>?_) (λhq=>?_))<;>try simp -implicitDefEqProofs only[sS,Nat.reduceAdd]))
theorem eI (h:J K p m H)(a:Int):bA (run G) 130 [pv p,cv a] H (Qf K p (m-1)):=by
 refine Ev.up (t:=λn=>Ww (run G n) n (pv p) (cv a) H) ?_ λn=>RA ..
 simp -implicitDefEqProofs only[Ww,sS,Nat.reduceAdd];repeat' (first|exact Ev.ret ⟨_,rfl,_,by assumption,by omega⟩| ((with_reducible first|refine Ev.lss (λhq=>?_) (λhq=>?_)|refine Ev.gtr (λhq=>?_) (λhq=>?_)|refine Ev.leq (λhq=>?_) (λhq=>?_)|refine Ev.geq (λhq=>?_) (λhq=>?_)|refine Ev.eql (λhq=>?_) (λhq=>?_)|refine Ev.neq (λhq=>?_) (λhq=>?_)|refine Ev.off ‹_› (λhq=>?_) (λhq=>?_)|refine Ev.az (dj _) λz=>?_ |refine Ev.az (gT _) λz=>?_ |refine Ev.az (cG _ _) λz=>?_ |refine Ev.az (bH _ _ _) λz=>?_ |refine Ev.az (hX _ _) λz=>?_ |refine Ev.az (cX _) λz=>?_ |refine Ev.az (de _ _ _ _) λz=>?_ |refine Ev.num (cE ‹_› _) λz Hz mz hj hm=>?_ |refine Ev.num (eM ‹_› _ _) λz Hz mz hj hm=>?_ |refine Ev.num (eI ‹_› _) λz Hz mz hj hm=>?_ |refine Ev.bool (eN ‹_› _ _ _) λz Hz mz hj hm=>?_ |refine Ev.un (cz ‹_› _ _) λz Hz mz hj hm=>?_ |refine Ev.dq (dc ‹_›) λz zb Hz mz hj hm=>?_ |refine Ev.jt (df ‹_› _ _) λz zb Hz mz hj hm=>?_ |refine Ev.br (λhq=>?_) (λhq=>?_))<;>try simp -implicitDefEqProofs only[sS,Nat.reduceAdd]))
theorem fj (h:J K p m H)(a:Int):bA (run G) 131 [pv p,cv a] H (Un K p (m-1)):=by
 refine Ev.up (t:=λn=>VW (run G n) n (pv p) (cv a) H) ?_ λn=>Rc ..
 simp -implicitDefEqProofs only[VW,Kf,yc,Kg,yd,sS,Nat.reduceAdd];repeat' (first|exact Ev.ret ⟨_,by assumption,by omega⟩| ((with_reducible first|refine Ev.lss (λhq=>?_) (λhq=>?_)|refine Ev.gtr (λhq=>?_) (λhq=>?_)|refine Ev.leq (λhq=>?_) (λhq=>?_)|refine Ev.geq (λhq=>?_) (λhq=>?_)|refine Ev.eql (λhq=>?_) (λhq=>?_)|refine Ev.neq (λhq=>?_) (λhq=>?_)|refine Ev.off ‹_› (λhq=>?_) (λhq=>?_)|refine Ev.az (dj _) λz=>?_ |refine Ev.az (gT _) λz=>?_ |refine Ev.az (cG _ _) λz=>?_ |refine Ev.az (bH _ _ _) λz=>?_ |refine Ev.az (hX _ _) λz=>?_ |refine Ev.az (cX _) λz=>?_ |refine Ev.az (de _ _ _ _) λz=>?_ |refine Ev.num (cE ‹_› _) λz Hz mz hj hm=>?_ |refine Ev.num (eM ‹_› _ _) λz Hz mz hj hm=>?_ |refine Ev.num (eI ‹_› _) λz Hz mz hj hm=>?_ |refine Ev.bool (eN ‹_› _ _ _) λz Hz mz hj hm=>?_ |refine Ev.un (cz ‹_› _ _) λz Hz mz hj hm=>?_ |refine Ev.un (fj ‹_› _) λz Hz mz hj hm=>?_ |refine Ev.dq (dc ‹_›) λz zb Hz mz hj hm=>?_ |refine Ev.jt (df ‹_› _ _) λz zb Hz mz hj hm=>?_ |refine Ev.br (λhq=>?_) (λhq=>?_))<;>try simp -implicitDefEqProofs only[sS,Nat.reduceAdd]))
theorem fl (h:J K p m H)(a:Int):bA (run G) 132 [pv p,cv a] H (Qf K p (m-1)):=by
 refine Ev.up (t:=λn=>Wx (run G n) n (pv p) (cv a) H) ?_ λn=>RB ..
 simp -implicitDefEqProofs only[Wx,sS,Nat.reduceAdd];refine Ev.num (cE h a) λz0 H0 m0 QG ZD=>?_
 refine Ev.BA (λvs=>∃(z:Int) (d:Value),vs=[pv p,cv a,cv 0,cv z,d]) (λe vs=>e= .exit 0∧∃(z:Int) (d:Value),vs=[pv p,cv a,cv 0,cv z,d]) QG ⟨_,_,rfl⟩ ?_ ?_
 ·rintro m1 vs Hx hj hk ⟨z,d,rfl⟩;simp -implicitDefEqProofs only[Kw,yx,sS,Nat.reduceAdd];repeat' (first|exact Ev.ret (.inl ⟨rfl,⟨_,by assumption,by omega⟩,_,_,rfl⟩)|exact Ev.ret (.inr ⟨by simp,⟨_,by assumption,by omega⟩,rfl,_,_,rfl⟩)| ((with_reducible first|refine Ev.lss (λhq=>?_) (λhq=>?_)|refine Ev.gtr (λhq=>?_) (λhq=>?_)|refine Ev.leq (λhq=>?_) (λhq=>?_)|refine Ev.geq (λhq=>?_) (λhq=>?_)|refine Ev.eql (λhq=>?_) (λhq=>?_)|refine Ev.neq (λhq=>?_) (λhq=>?_)|refine Ev.off ‹_› (λhq=>?_) (λhq=>?_)|refine Ev.az (dj _) λz=>?_ |refine Ev.az (gT _) λz=>?_ |refine Ev.az (cG _ _) λz=>?_ |refine Ev.az (bH _ _ _) λz=>?_ |refine Ev.az (hX _ _) λz=>?_ |refine Ev.az (cX _) λz=>?_ |refine Ev.az (de _ _ _ _) λz=>?_ |refine Ev.num (cE ‹_› _) λz Hz mz hj hm=>?_ |refine Ev.num (eM ‹_› _ _) λz Hz mz hj hm=>?_ |refine Ev.num (eI ‹_› _) λz Hz mz hj hm=>?_ |refine Ev.num (fl ‹_› _) λz Hz mz hj hm=>?_ |refine Ev.bool (eN ‹_› _ _ _) λz Hz mz hj hm=>?_ |refine Ev.un (cz ‹_› _ _) λz Hz mz hj hm=>?_ |refine Ev.un (fj ‹_› _) λz Hz mz hj hm=>?_ |refine Ev.dq (dc ‹_›) λz zb Hz mz hj hm=>?_ |refine Ev.jt (df ‹_› _ _) λz zb Hz mz hj hm=>?_ |refine Ev.br (λhq=>?_) (λhq=>?_))<;>try simp -implicitDefEqProofs only[sS,Nat.reduceAdd]))
 ·rintro e vs m1 Hx hj hm ⟨rfl,z,d,rfl⟩;simp -implicitDefEqProofs only[Kx,yy,sS,Nat.reduceAdd];exact Ev.ret ⟨_,rfl,_,hj,by omega⟩
theorem ea (h:J K p m H)(a k:Int):bA (run G) 151 [pv p,cv a,cv k] H (Qf K p (m-1)):=by
 refine Ev.up (t:=λn=>VI (run G n) n (pv p) (cv a) (cv k) H) ?_ λn=>QY ..
 simp -implicitDefEqProofs only[VI,sS,Nat.reduceAdd];repeat' (first|exact Ev.ret ⟨_,rfl,_,by assumption,by omega⟩| ((with_reducible first|refine Ev.lss (λhq=>?_) (λhq=>?_)|refine Ev.gtr (λhq=>?_) (λhq=>?_)|refine Ev.leq (λhq=>?_) (λhq=>?_)|refine Ev.geq (λhq=>?_) (λhq=>?_)|refine Ev.eql (λhq=>?_) (λhq=>?_)|refine Ev.neq (λhq=>?_) (λhq=>?_)|refine Ev.off ‹_› (λhq=>?_) (λhq=>?_)|refine Ev.az (dj _) λz=>?_ |refine Ev.az (gT _) λz=>?_ |refine Ev.az (cG _ _) λz=>?_ |refine Ev.az (bH _ _ _) λz=>?_ |refine Ev.az (hX _ _) λz=>?_ |refine Ev.az (cX _) λz=>?_ |refine Ev.az (de _ _ _ _) λz=>?_ |refine Ev.num (cE ‹_› _) λz Hz mz hj hm=>?_ |refine Ev.num (eM ‹_› _ _) λz Hz mz hj hm=>?_ |refine Ev.num (eI ‹_› _) λz Hz mz hj hm=>?_ |refine Ev.num (fl ‹_› _) λz Hz mz hj hm=>?_ |refine Ev.num (ea ‹_› _ _) λz Hz mz hj hm=>?_ |refine Ev.bool (eN ‹_› _ _ _) λz Hz mz hj hm=>?_ |refine Ev.un (cz ‹_› _ _) λz Hz mz hj hm=>?_ |refine Ev.un (fj ‹_› _) λz Hz mz hj hm=>?_ |refine Ev.dq (dc ‹_›) λz zb Hz mz hj hm=>?_ |refine Ev.jt (df ‹_› _ _) λz zb Hz mz hj hm=>?_ |refine Ev.br (λhq=>?_) (λhq=>?_))<;>try simp -implicitDefEqProofs only[sS,Nat.reduceAdd]))
theorem fW (h:J K p m H)(k:Int):bA (run G) 135 [pv p,cv k] H (Fl K p m):=by
 refine Ev.up (t:=λn=>VX (run G n) n (pv p) (cv k) H) ?_ λn=>Re ..
 simp -implicitDefEqProofs only[VX,sS,Nat.reduceAdd];refine Ev.BA (λvs=>∃(i:Int) (x4 x5 aJ x7 bQ bW x8 cU bN dJ:Value),vs=[pv p,cv k,x4,x5,aJ,cv i,x7,bQ,bW,x8,cU,bN,dJ])
  (λe vs=>(e= .exit 0∨(e= .ret∧∃u b,vs[2]? =some (cv u)∧vs[3]? =some (.bool b)))∧∃(x4 x5 aJ x6 x7 bQ bW x8 cU bN dJ:Value),vs=[pv p,cv k,x4,x5,aJ,x6,x7,bQ,bW,x8,cU,bN,dJ]) h ⟨_,_,_,_,_,_,_,_,_,_,_,rfl⟩ ?_ ?_
 ·rintro m1 vs Hx hj hk ⟨i,x4,x5,aJ,x7,bQ,bW,x8,cU,bN,dJ,rfl⟩;simp -implicitDefEqProofs only[Kh,ye,sS,Nat.reduceAdd];repeat' (first|exact Ev.ret (.inl ⟨rfl,⟨_,by assumption,by omega⟩,_,_,_,_,_,_,_,_,_,_,_,rfl⟩)|exact Ev.ret (.inr ⟨by simp,⟨_,by assumption,by omega⟩,.inl rfl,_,_,_,_,_,_,_,_,_,_,_,rfl⟩)|exact Ev.ret (.inr ⟨by simp,⟨_,by assumption,by omega⟩,.inr ⟨rfl,_,_,rfl,rfl⟩,_,_,_,_,_,_,_,_,_,_,_,rfl⟩)| ((with_reducible first|refine Ev.lss (λhq=>?_) (λhq=>?_)|refine Ev.gtr (λhq=>?_) (λhq=>?_)|refine Ev.leq (λhq=>?_) (λhq=>?_)|refine Ev.geq (λhq=>?_) (λhq=>?_)|refine Ev.eql (λhq=>?_) (λhq=>?_)|refine Ev.neq (λhq=>?_) (λhq=>?_)|refine Ev.off ‹_› (λhq=>?_) (λhq=>?_)|refine Ev.az (dj _) λz=>?_ |refine Ev.az (gT _) λz=>?_ |refine Ev.az (cG _ _) λz=>?_ |refine Ev.az (bH _ _ _) λz=>?_ |refine Ev.az (hX _ _) λz=>?_ |refine Ev.az (cX _) λz=>?_ |refine Ev.az (de _ _ _ _) λz=>?_ |refine Ev.num (cE ‹_› _) λz Hz mz hj hm=>?_ |refine Ev.num (eM ‹_› _ _) λz Hz mz hj hm=>?_ |refine Ev.num (eI ‹_› _) λz Hz mz hj hm=>?_ |refine Ev.num (fl ‹_› _) λz Hz mz hj hm=>?_ |refine Ev.num (ea ‹_› _ _) λz Hz mz hj hm=>?_ |refine Ev.bool (eN ‹_› _ _ _) λz Hz mz hj hm=>?_ |refine Ev.un (cz ‹_› _ _) λz Hz mz hj hm=>?_ |refine Ev.un (fj ‹_› _) λz Hz mz hj hm=>?_ |refine Ev.dq (dc ‹_›) λz zb Hz mz hj hm=>?_ |refine Ev.dq (fW ‹_› _) λz zb Hz mz hj hm=>?_ |refine Ev.jt (df ‹_› _ _) λz zb Hz mz hj hm=>?_ |refine Ev.br (λhq=>?_) (λhq=>?_))<;>try simp -implicitDefEqProofs only[sS,Nat.reduceAdd]))
 ·rintro e vs m1 Hx hj hm ⟨he,x4,x5,aJ,x6,x7,bQ,bW,x8,cU,bN,dJ,rfl⟩;rcases he with rfl|⟨rfl,u,b,e1,e2⟩
  ·simp -implicitDefEqProofs only[Ki,yf,sS,Nat.reduceAdd];exact Ev.ret ⟨_,_,rfl,_,hj,by omega⟩
  ·simp only[List.getElem?_cons_succ,List.getElem?_cons_zero,Option.some.injEq] at e1 e2;subst e1 e2;show Ev (λ_=>some (Value.tuple #[cv u,.bool b],Hx)) _
   exact Ev.ret ⟨_,_,rfl,_,hj,by omega⟩
end
section
variable {G:ae} {H H':aa} {o o':aj} {p m:Nat} {K:aa→aj→Prop}
theorem jq (o:aj): ∀n:Nat,∃t:Int,t< -100∧∀i,i<n→t<o i
 |0=>⟨-101,by omega,λi h=>by omega⟩
 |n+1=>by
  obtain⟨t,h1,h2⟩:=jq o n;refine⟨min t (o n)-1,by omega,λi hi=>?_⟩
  rcases Nat.lt_or_ge i n with g|g
  ·have:=h2 i g;omega
  ·have:i=n:=by omega
   subst this;omega
theorem mh {t:Int}{ps:List Int}(f:Fr H o H' o' (t::ps))(h: ∀i,i<H.length→o i≠t):Fr H o H' o' ps:=
 ⟨λi hi hn=>f.slot i hi (by simp only[List.mem_cons,not_or];exact⟨h i hi,hn⟩),f.own,f.size⟩
theorem J.words (h:J K p m H)(l:List Int)(t:TypeId):JW K p m (H.new ⟨l.map cv,t,1,false⟩) (.slice (some ⟨H.length,0,none⟩) l.length l.length):=by
 obtain⟨hK,o,hr,hk⟩:=h;have f:Fr H o (H.new ⟨l.map cv,t,1,false⟩) (o.up H.length (-51)) []:=(Fr.refl H o []).new _ _;exact⟨hK,_,hr.fr f (by simp) (by simp) (by simp),hK _ _ _ _ hk (f.wk (by simp)),l,(qd.new H o (-51) t l).ints⟩
theorem DF (a:Int)(H:aa):au Tryz.prog 52 1 [(0,cv a)] H=some (.slice (some ⟨H.length,0,none⟩) 1 1,H.new ⟨[cv a],2,1,false⟩):=by kernel_rfl
theorem Yp (a b:Int)(H:aa):au Tryz.prog 52 2 [(0,cv a),(1,cv b)] H=some (.slice (some ⟨H.length,0,none⟩) 2 2,H.new ⟨[cv a,cv b],2,1,false⟩):=by kernel_rfl
theorem SJ (a b c d e:Int)(H:aa):au Tryz.prog 52 5 [(0,cv a),(1,cv b),(2,cv c),(3,cv d),(4,cv e)] H=some (.slice (some ⟨H.length,0,none⟩) 5 5,H.new ⟨[cv a,cv b,cv c,cv d,cv e],2,1,false⟩):=by kernel_rfl
theorem cA (h:J K p m H)(a b c d:Int):bA (run G) 149 [cv a,cv b,cv c,cv d] H λw H'=>JW K p m H' w:=by
 refine Ev.up (t:=λn=>Xs (run G n) n (cv a) (cv b) (cv c) (cv d) H) ?_ λn=>R5 ..
 simp -implicitDefEqProofs only[Xs,SJ,sS,Nat.reduceAdd];exact Ev.ret (h.words [a,b,c,d,0] _)
theorem bz (h:J K p m H)(a b c:Int):bA (run G) 157 [cv a,cv b,cv c] H λw H'=>JW K p m H' w:=by
 refine Ev.up (t:=λn=>VJ (run G n) n (cv a) (cv b) (cv c) H) ?_ λn=>QZ ..
 simp -implicitDefEqProofs only[VJ,SJ,sS,Nat.reduceAdd];exact Ev.ret (h.words [a,b,c,0,0] _)
theorem bU (h:J K p m H):bA (run G) 64 [] H λw H'=>JW K p m H' w:=by
 refine Ev.up (t:=λn=>XA (run G n) n H) ?_ λn=>G2 ..
 simp -implicitDefEqProofs only[XA,DF,sS,Nat.reduceAdd];exact Ev.ret (h.words [0] _)
theorem ct (h:J K p m H)(a b:Int):bA (run G) 97 [cv a,cv b] H λw H'=>JW K p m H' w:=by
 refine Ev.up (t:=λn=>F97 (run G n) n (cv a) (cv b) H) ?_ λn=>V9 ..
 simp -implicitDefEqProofs only[F97,Yp,sS,Nat.reduceAdd];exact Ev.ret (h.words [a,b] _)
theorem n5 (h:J K p m H)(s:Int){q c:Value}{lq lc:List Int}(hq:iz H q lq)(hc:iz H c lc)(hl:lq.length+lc.length≤1000000):
  bA (run G) 62 [cv s,q,c] H λw H'=>JW K p m H' w:=by
 refine Ev.up (t:=λn=>F62 (run G n) n (cv s) q c H) ?_ λn=>OO ..
 simp -implicitDefEqProofs only[F62,hq.len,hc.len,sS,Nat.reduceAdd];refine Ev.neq (λh1=>?_) (λh1=>?_)<;>try simp -implicitDefEqProofs only[hc.len,SJ,sS,Nat.reduceAdd]
 ·exact Ev.ret h.Pp
 obtain⟨hK,o,hr,hk⟩:=h;obtain⟨t,ht,hf⟩:=jq o H.length;have s1:=qd.new H o t 2 [(lc.length:Int),s,0,0,0];have f1:Fr H o (H.new ⟨[cv lc.length,cv s,cv 0,cv 0,cv 0],2,1,false⟩) (o.up H.length t) [t]:=(Fr.refl H o [t]).new _ _;obtain⟨H1,e1⟩: ∃z,z=H.new ⟨[cv lc.length,cv s,cv 0,cv 0,cv 0],2,1,false⟩:=⟨_,rfl⟩;have keep: ∀{x:Value} {l:List Int} {H2:aa} {o2:aj},iz H x l→Fr H o H2 o2 [t]→iz H2 x l:=λhx f=>hx.keep λi b e dX=>by
  rcases hx with⟨e1,e2⟩|⟨j,off,cc,e1,hb⟩
  ·exact absurd e2 dX
  ·obtain⟨bb,g1,_⟩:=hb dX;rw[e1] at e;cases e;exact f.same j (an g1) (by have:=hf j (an g1);simp;omega)
 obtain⟨x2,H2,o2,a2,s2,f2,_⟩:=lD (H:=H1) 2 (by rw[e1];exact s1) (keep hq (by rw[e1];exact f1)) (by simp;omega)
 have f12:Fr H o H2 o2 [t]:=by rw[e1] at f2;exact f1.tr f2
 obtain⟨x3,H3,o3,a3,s3,f3,_⟩:=lD 2 s2 (keep hc f12) (by simp;omega)
 have f13:=f12.tr f3;have eH:H.new ⟨[cv lc.length,cv s,cv 0,cv 0,cv 0],2,1,false⟩=H1:=e1.symm;simp -implicitDefEqProofs only[eH,List.length_cons,List.length_nil,sS,Nat.reduceAdd] at a2;simp -implicitDefEqProofs only[eH,a2,a3,sS,Nat.reduceAdd];have f0:Fr H o H3 o3 []:=mh f13 λi hi=>by have:=hf i hi;omega
 let o4:aj:=λi=>if H.length≤i∧o3 i=t then -51 else o3 i
 have f4:Fr H o H3 o4 []:=⟨f0.slot,λi hi=>by show(if H.length≤i∧o3 i=t then(-51:Int) else o3 i)=_;rw[if_neg (by omega)];exact f0.own i hi,f0.size⟩
 refine Ev.ret ⟨hK,o4,hr.fr f4 (by simp) (by simp) (by simp),hK _ _ _ _ hk (f4.wk (by simp)),_,s3.ints.1,λb n cc e dX=>?_⟩
 obtain⟨g1,g2⟩:=s3.ints.2 b n cc e dX;refine⟨g1,?_⟩;show(if H.length≤b.block∧o3 b.block=t then(-51:Int) else o3 b.block)= -51
 have ZA:H.length≤b.block:=by
  rcases Nat.lt_or_ge b.block H.length with g|g
  ·have a1:=f13.own _ g;have a2:=hf _ g;omega
  ·exact g
 rw[if_pos ⟨ZA,g2⟩]
section
variable {α:Type} {k:Nat→Value→aa→Option α} {Q:α→Prop} {z:Int}
theorem J.ac3 (h:J K p m H)(z:Int): ∃H',bS 1 (.pointer (some ⟨p,8,none⟩)) (cv z) H=some (undef,H')∧J K p m H':=by
 obtain⟨hK,o,⟨tape,w,T,W,i,nk,na,nx,ny,rec,laid,ty,g,ho,ht,hT,hw,hi⟩,hk⟩:=h;refine⟨_,jM p 8 z H g rfl (by simp),hK,o,⟨tape,w,T,W,i,nk,na,nx,ny,z,laid,ty,aD g,ho,?_,hT,?_,hi⟩,hK _ _ _ _ hk ?_⟩
 ·exact ht.fr ((Fr.refl H o [(p:Int)]).put λ_=>by simp[ho]) (by simp)
 ·exact hw.fr ((Fr.refl H o [(p:Int)]).put λ_=>by simp[ho]) (by simp)
 ·exact(Fr.refl H o [(p:Int)]).put λ_=>by simp[ho]
theorem J.ac4 (h:J K p m H)(z:Int): ∃H',bS 1 (.pointer (some ⟨p,9,none⟩)) (cv z) H=some (undef,H')∧J K p m H':=by
 obtain⟨hK,o,⟨tape,w,T,W,i,nk,na,nx,ny,rec,laid,ty,g,ho,ht,hT,hw,hi⟩,hk⟩:=h;refine⟨_,jM p 9 z H g rfl (by simp),hK,o,⟨tape,w,T,W,i,nk,na,nx,ny,rec,z,ty,aD g,ho,?_,hT,?_,hi⟩,hK _ _ _ _ hk ?_⟩
 ·exact ht.fr ((Fr.refl H o [(p:Int)]).put λ_=>by simp[ho]) (by simp)
 ·exact hw.fr ((Fr.refl H o [(p:Int)]).put λ_=>by simp[ho]) (by simp)
 ·exact(Fr.refl H o [(p:Int)]).put λ_=>by simp[ho]
theorem Ev.nh (h:J K p m H)(hk: ∀H',J K p m H'→Ev (λn=>k n undef H') Q):Ev (λn=>af (bS 1 (.pointer (some ⟨p,8,none⟩)) (cv z) H) (k n)) Q:=by
 obtain⟨H',e,hj⟩:=h.ac3 z;rw[e];exact hk H' hj
theorem Ev.ni (h:J K p m H)(hk: ∀H',J K p m H'→Ev (λn=>k n undef H') Q):Ev (λn=>af (bS 1 (.pointer (some ⟨p,9,none⟩)) (cv z) H) (k n)) Q:=by
 obtain⟨H',e,hj⟩:=h.ac4 z;rw[e];exact hk H' hj
theorem Ev.mE (h:J K p m H)(hk: ∀z,Ev (λn=>k n (cv z) H) Q):Ev (λn=>af (pS (aq (.pointer (some ⟨p,8,none⟩)) H) H) (k n)) Q:=by
 obtain⟨hK,o,⟨tape,w,T,W,i,nk,na,nx,ny,rec,laid,ty,g,_⟩,_⟩:=h;have:=ak p 8 H g
 simp only[List.getElem?_cons_succ,List.getElem?_cons_zero] at this;rw[this];exact hk rec
end
theorem fX (h:J K p m H)(a b c d:Int):bA (run G) 133 [pv p,cv a,cv b,cv c,cv d] H (Qf K p (m-1)):=by
 refine Ev.up (t:=λn=>XE (run G n) n (pv p) (cv a) (cv b) (cv c) (cv d) H) ?_ λn=>Sf ..
 simp -implicitDefEqProofs only[XE,Lh,zf,sS,Nat.reduceAdd];repeat' (first|exact Ev.ret ⟨_,rfl,_,by assumption,by omega⟩| ((with_reducible first|refine Ev.lss (λhq=>?_) (λhq=>?_)|refine Ev.gtr (λhq=>?_) (λhq=>?_)|refine Ev.leq (λhq=>?_) (λhq=>?_)|refine Ev.geq (λhq=>?_) (λhq=>?_)|refine Ev.eql (λhq=>?_) (λhq=>?_)|refine Ev.neq (λhq=>?_) (λhq=>?_)|refine Ev.off ‹_› (λhq=>?_) (λhq=>?_)|refine Ev.az (dj _) λz=>?_ |refine Ev.az (gT _) λz=>?_ |refine Ev.az (cG _ _) λz=>?_ |refine Ev.az (bH _ _ _) λz=>?_ |refine Ev.az (hX _ _) λz=>?_ |refine Ev.az (cX _) λz=>?_ |refine Ev.az (de _ _ _ _) λz=>?_ |refine Ev.num (cE ‹_› _) λz Hz mz hj hm=>?_ |refine Ev.num (eM ‹_› _ _) λz Hz mz hj hm=>?_ |refine Ev.num (eI ‹_› _) λz Hz mz hj hm=>?_ |refine Ev.num (fl ‹_› _) λz Hz mz hj hm=>?_ |refine Ev.num (ea ‹_› _ _) λz Hz mz hj hm=>?_ |refine Ev.num (fX ‹_› _ _ _ _) λz Hz mz hj hm=>?_ |refine Ev.bool (eN ‹_› _ _ _) λz Hz mz hj hm=>?_ |refine Ev.un (cz ‹_› _ _) λz Hz mz hj hm=>?_ |refine Ev.un (fj ‹_› _) λz Hz mz hj hm=>?_ |refine Ev.dq (dc ‹_›) λz zb Hz mz hj hm=>?_ |refine Ev.dq (fW ‹_› _) λz zb Hz mz hj hm=>?_ |refine Ev.jt (df ‹_› _ _) λz zb Hz mz hj hm=>?_ |refine Ev.wd (cA ‹_› _ _ _ _) λw Hz hj=>?_ |refine Ev.wd (bU ‹_›) λw Hz hj=>?_ |refine Ev.wd (ct ‹_› _ _) λw Hz hj=>?_ |refine Ev.wd (bz ‹_› _ _ _) λw Hz hj=>?_ |refine Ev.nh ‹_› λHz hj=>?_ |refine Ev.ni ‹_› λHz hj=>?_ |refine Ev.mE ‹_› λz=>?_ |refine Ev.br (λhq=>?_) (λhq=>?_))<;>try simp -implicitDefEqProofs only[sS,Nat.reduceAdd]))
theorem hY: ∀(m:Nat) {K:aa→aj→Prop} {H:aa},J K p m H→∀a,bA (run G) 138 [pv p,cv a] H (Qf K p (m-1)):=by
 intro m;induction m using Nat.strongRecOn with
 |ind m ih=>
 intro K H h a;have ih': ∀{m':Nat} {H':aa},J K p m' H'→m'<m→∀a,bA (run G) 138 [pv p,cv a] H' (Qf K p (m'-1)):=λhj hm a=>ih _ hm hj a
 refine Ev.up (t:=λn=>XG (run G n) n (pv p) (cv a) H) ?_ λn=>Sh ..
 simp -implicitDefEqProofs only[XG,sS,Nat.reduceAdd];have L0: ∀(d:Int) (x4 aX bN x9 ef dN eS aG iA:Value) (x5:Value) (m1:Nat) (H1:aa),J K p m1 H1→m1≤m-1→
   Ev (λn=>cN (iter n (Dt (run G n) n) [pv p,cv a,x4,x5,aX,cv 0,cv d,bN,x9,ef,dN,cv 0,eS,aG,iA] H1) (dK 0 (dT (Du (run G n) n) (eG Tryz.prog [.tmp 4] [0,1,4,5,16,8,6,35,9,47,48,7,52,10,59])))) λr=>Qf K p (m-1) r.1 r.2:=by
  intro d x4 aX bN x9 ef dN eS aG iA x5 m1 H1 kc Jd;refine Ev.BA (λvs=>∃(i s:Int) (x4 x5 aX bN x9 ef dN eS aG iA:Value),vs=[pv p,cv a,x4,x5,aX,cv i,cv d,bN,x9,ef,dN,cv s,eS,aG,iA])
   (λe vs=>e= .exit 0∧∃(i s:Int) (x4 x5 aX bN x9 ef dN eS aG iA:Value),vs=[pv p,cv a,x4,x5,aX,cv i,cv d,bN,x9,ef,dN,cv s,eS,aG,iA]) kc ⟨_,_,_,_,_,_,_,_,_,_,_,_,rfl⟩ ?_ ?_
  ·rintro m1 vs H1 hj hm ⟨i,s,x4,x5,aX,bN,x9,ef,dN,eS,aG,iA,rfl⟩;simp -implicitDefEqProofs only[Lm,zm,sS,Nat.reduceAdd];repeat' (first|exact Ev.ret (.inl ⟨rfl,⟨_,by assumption,by omega⟩,_,_,_,_,_,_,_,_,_,_,_,_,rfl⟩)|exact Ev.ret (.inr ⟨by simp,⟨_,by assumption,by omega⟩,rfl,_,_,_,_,_,_,_,_,_,_,_,_,rfl⟩)| (simp -implicitDefEqProofs only[Ll,zj,sS,Nat.reduceAdd])| (refine Ev.num (ih' ‹_› (by omega) _) λz Hz mz hj hm=>?_ <;>try simp -implicitDefEqProofs only[sS,Nat.reduceAdd])| ((with_reducible first|refine Ev.lss (λhq=>?_) (λhq=>?_)|refine Ev.gtr (λhq=>?_) (λhq=>?_)|refine Ev.leq (λhq=>?_) (λhq=>?_)|refine Ev.geq (λhq=>?_) (λhq=>?_)|refine Ev.eql (λhq=>?_) (λhq=>?_)|refine Ev.neq (λhq=>?_) (λhq=>?_)|refine Ev.off ‹_› (λhq=>?_) (λhq=>?_)|refine Ev.az (dj _) λz=>?_ |refine Ev.az (gT _) λz=>?_ |refine Ev.az (cG _ _) λz=>?_ |refine Ev.az (bH _ _ _) λz=>?_ |refine Ev.az (hX _ _) λz=>?_ |refine Ev.az (cX _) λz=>?_ |refine Ev.az (de _ _ _ _) λz=>?_ |refine Ev.num (cE ‹_› _) λz Hz mz hj hm=>?_ |refine Ev.num (eM ‹_› _ _) λz Hz mz hj hm=>?_ |refine Ev.num (eI ‹_› _) λz Hz mz hj hm=>?_ |refine Ev.num (fl ‹_› _) λz Hz mz hj hm=>?_ |refine Ev.num (ea ‹_› _ _) λz Hz mz hj hm=>?_ |refine Ev.num (fX ‹_› _ _ _ _) λz Hz mz hj hm=>?_ |refine Ev.bool (eN ‹_› _ _ _) λz Hz mz hj hm=>?_ |refine Ev.un (cz ‹_› _ _) λz Hz mz hj hm=>?_ |refine Ev.un (fj ‹_› _) λz Hz mz hj hm=>?_ |refine Ev.dq (dc ‹_›) λz zb Hz mz hj hm=>?_ |refine Ev.dq (fW ‹_› _) λz zb Hz mz hj hm=>?_ |refine Ev.jt (df ‹_› _ _) λz zb Hz mz hj hm=>?_ |refine Ev.num (hY _ ‹_› _) λz Hz mz hj hm=>?_ |refine Ev.wd (cA ‹_› _ _ _ _) λw Hz hj=>?_ |refine Ev.wd (bU ‹_›) λw Hz hj=>?_ |refine Ev.wd (ct ‹_› _ _) λw Hz hj=>?_ |refine Ev.wd (bz ‹_› _ _ _) λw Hz hj=>?_ |refine Ev.nh ‹_› λHz hj=>?_ |refine Ev.ni ‹_› λHz hj=>?_ |refine Ev.mE ‹_› λz=>?_ |refine Ev.br (λhq=>?_) (λhq=>?_))<;>try simp -implicitDefEqProofs only[sS,Nat.reduceAdd]))
  ·rintro e vs m2 H2 hj hm ⟨rfl,i,s,x4,x5,aX,bN,x9,ef,dN,eS,aG,iA,rfl⟩;simp -implicitDefEqProofs only[Ln,zn,sS,Nat.reduceAdd];repeat' (first|exact Ev.ret ⟨_,rfl,_,by assumption,by omega⟩| ((with_reducible first|refine Ev.lss (λhq=>?_) (λhq=>?_)|refine Ev.gtr (λhq=>?_) (λhq=>?_)|refine Ev.leq (λhq=>?_) (λhq=>?_)|refine Ev.geq (λhq=>?_) (λhq=>?_)|refine Ev.eql (λhq=>?_) (λhq=>?_)|refine Ev.neq (λhq=>?_) (λhq=>?_)|refine Ev.off ‹_› (λhq=>?_) (λhq=>?_)|refine Ev.az (dj _) λz=>?_ |refine Ev.az (gT _) λz=>?_ |refine Ev.az (cG _ _) λz=>?_ |refine Ev.az (bH _ _ _) λz=>?_ |refine Ev.az (hX _ _) λz=>?_ |refine Ev.az (cX _) λz=>?_ |refine Ev.az (de _ _ _ _) λz=>?_ |refine Ev.num (cE ‹_› _) λz Hz mz hj hm=>?_ |refine Ev.num (eM ‹_› _ _) λz Hz mz hj hm=>?_ |refine Ev.num (eI ‹_› _) λz Hz mz hj hm=>?_ |refine Ev.num (fl ‹_› _) λz Hz mz hj hm=>?_ |refine Ev.num (ea ‹_› _ _) λz Hz mz hj hm=>?_ |refine Ev.num (fX ‹_› _ _ _ _) λz Hz mz hj hm=>?_ |refine Ev.bool (eN ‹_› _ _ _) λz Hz mz hj hm=>?_ |refine Ev.un (cz ‹_› _ _) λz Hz mz hj hm=>?_ |refine Ev.un (fj ‹_› _) λz Hz mz hj hm=>?_ |refine Ev.dq (dc ‹_›) λz zb Hz mz hj hm=>?_ |refine Ev.dq (fW ‹_› _) λz zb Hz mz hj hm=>?_ |refine Ev.jt (df ‹_› _ _) λz zb Hz mz hj hm=>?_ |refine Ev.num (hY _ ‹_› _) λz Hz mz hj hm=>?_ |refine Ev.wd (cA ‹_› _ _ _ _) λw Hz hj=>?_ |refine Ev.wd (bU ‹_›) λw Hz hj=>?_ |refine Ev.wd (ct ‹_› _ _) λw Hz hj=>?_ |refine Ev.wd (bz ‹_› _ _ _) λw Hz hj=>?_ |refine Ev.nh ‹_› λHz hj=>?_ |refine Ev.ni ‹_› λHz hj=>?_ |refine Ev.mE ‹_› λz=>?_ |refine Ev.br (λhq=>?_) (λhq=>?_))<;>try simp -implicitDefEqProofs only[sS,Nat.reduceAdd]))
 repeat' (first|exact Ev.ret ⟨_,rfl,_,by assumption,by omega⟩|exact L0 _ _ _ _ _ _ _ _ _ _ _ _ _ ‹_› (by omega)| ((with_reducible first|refine Ev.lss (λhq=>?_) (λhq=>?_)|refine Ev.gtr (λhq=>?_) (λhq=>?_)|refine Ev.leq (λhq=>?_) (λhq=>?_)|refine Ev.geq (λhq=>?_) (λhq=>?_)|refine Ev.eql (λhq=>?_) (λhq=>?_)|refine Ev.neq (λhq=>?_) (λhq=>?_)|refine Ev.off ‹_› (λhq=>?_) (λhq=>?_)|refine Ev.az (dj _) λz=>?_ |refine Ev.az (gT _) λz=>?_ |refine Ev.az (cG _ _) λz=>?_ |refine Ev.az (bH _ _ _) λz=>?_ |refine Ev.az (hX _ _) λz=>?_ |refine Ev.az (cX _) λz=>?_ |refine Ev.az (de _ _ _ _) λz=>?_ |refine Ev.num (cE ‹_› _) λz Hz mz hj hm=>?_ |refine Ev.num (eM ‹_› _ _) λz Hz mz hj hm=>?_ |refine Ev.num (eI ‹_› _) λz Hz mz hj hm=>?_ |refine Ev.num (fl ‹_› _) λz Hz mz hj hm=>?_ |refine Ev.num (ea ‹_› _ _) λz Hz mz hj hm=>?_ |refine Ev.num (fX ‹_› _ _ _ _) λz Hz mz hj hm=>?_ |refine Ev.bool (eN ‹_› _ _ _) λz Hz mz hj hm=>?_ |refine Ev.un (cz ‹_› _ _) λz Hz mz hj hm=>?_ |refine Ev.un (fj ‹_› _) λz Hz mz hj hm=>?_ |refine Ev.dq (dc ‹_›) λz zb Hz mz hj hm=>?_ |refine Ev.dq (fW ‹_› _) λz zb Hz mz hj hm=>?_ |refine Ev.jt (df ‹_› _ _) λz zb Hz mz hj hm=>?_ |refine Ev.num (hY _ ‹_› _) λz Hz mz hj hm=>?_ |refine Ev.wd (cA ‹_› _ _ _ _) λw Hz hj=>?_ |refine Ev.wd (bU ‹_›) λw Hz hj=>?_ |refine Ev.wd (ct ‹_› _ _) λw Hz hj=>?_ |refine Ev.wd (bz ‹_› _ _ _) λw Hz hj=>?_ |refine Ev.nh ‹_› λHz hj=>?_ |refine Ev.ni ‹_› λHz hj=>?_ |refine Ev.mE ‹_› λz=>?_ |refine Ev.br (λhq=>?_) (λhq=>?_))<;>try simp -implicitDefEqProofs only[sS,Nat.reduceAdd]))
 trace_state
end
end Go.Proofs.YtjgmnoaalbbonaaGreat.Fun
end
