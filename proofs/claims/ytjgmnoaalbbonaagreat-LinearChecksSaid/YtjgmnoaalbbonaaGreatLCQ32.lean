/- Texts of the proof of linearChecks_holds, put together by a small program of ours (names shortened, spaces taken out). No condition beyond the given statement. -/
import Derived.Test.YtjgmnoaalbbonaaGreatLCQ15
import Derived.Test.YtjgmnoaalbbonaaGreatLCQ16
import Derived.Test.YtjgmnoaalbbonaaGreatLCQ17
import Derived.Test.YtjgmnoaalbbonaaGreatLCQ18
import Derived.Test.YtjgmnoaalbbonaaGreatLCQ21
import Derived.Test.YtjgmnoaalbbonaaGreatLCQ22
import Derived.Test.YtjgmnoaalbbonaaGreatLCQ31
set_option linter.unusedVariables false
set_option linter.unusedSimpArgs false
set_option linter.unnecessarySimpa false
noncomputable section
section
namespace Go.Proofs.YtjgmnoaalbbonaaGreat.Fun
open Go Go.RowKit Go.Proofs.YtjgmnoaalbbonaaGreatA.Am
set_option maxRecDepth 10000
section
variable {G:ag} {H H':ae} {o o':an} {p m:Nat} {K:ae→an→Prop}
abbrev uv (x:Int):Value:=.int .u64 x
section
variable {α:Type} {k:Nat→Value→ae→Option α} {Q:α→Prop} {t:TypeId} {a b:Int} {P:Program}
theorem Ev.ac1 {op:BinOp}(Du:op= .eql∨op= .geq)(h1:Ev (λn=>k n (.bool true) H) Q)(h2:Ev (λn=>k n (.bool false) H) Q):Ev (λn=>af (pS (aj P op t (uv a) (uv b)) H) (k n)) Q:=by
 have: ∃c:Bool,aj P op t (uv a) (uv b)=some (.bool c):=by
  rcases Du with rfl|rfl
  ·exact⟨_,rfl⟩
  ·exact⟨_,rfl⟩
 obtain⟨c,e⟩:=this;rw[e];cases c with
 |true=>exact h1
 |false=>exact h2
end
theorem PS (t:TypeId)(a b:Int):aj Tryz.prog .sub t (uv a) (uv b)=some (uv (IntKind.u64.wrap (a-b))):=rfl
theorem afe (t:TypeId)(a b:Int):aj Tryz.prog .add t (uv a) (uv b)=some (uv (IntKind.u64.wrap (a+b))):=rfl
theorem aff (x:Int)(H:ae):sK .u64 (cv x) H=some (uv (IntKind.u64.wrap x),H):=rfl
theorem ahn (a b:Int)(H:ae):ad2 (uv a) (uv b) H=some (uv (if b<a then b else a),H):=rfl
theorem aho (t:TypeId)(a:Int)(b:Nat):aj Tryz.prog .shr t (cv a) (.int .u64 b)=some (cv (a.fdiv (2^min ((b:Int)).toNat 64))):=by
 show sU .shr .i64 a b=_
 simp only[sU];rfl
theorem YG (a b:Int):bN (run G) 165 [cv a,cv b] H λv H'=>(∃z,v=uv z)∧H'=H:=by
 refine Ev.up (t:=λn=>acn (run G n) n (cv a) (cv b) H) ?_ λn=>WT ..
 simp -implicitDefEqProofs only[acn,sS,Nat.reduceAdd,aff,PS];refine Ev.lss (λh1=>?_) (λh1=>?_)<;>try simp -implicitDefEqProofs only[sS,Nat.reduceAdd,aff,PS]
 ·exact Ev.ret ⟨⟨_,rfl⟩,rfl⟩
 ·exact Ev.ret ⟨⟨_,rfl⟩,rfl⟩
theorem Xw (a b c:Int):bN (run G) 164 [uv a,uv b,cv c] H (Cb H):=by
 refine Ev.up (t:=λn=>ab6 (run G n) n (uv a) (uv b) (cv c) H) ?_ λn=>WE ..
 simp -implicitDefEqProofs only[ab6,sS,Nat.reduceAdd];refine Ev.ac1 (.inl rfl) ?_ ?_ <;>try simp -implicitDefEqProofs only[sS,Nat.reduceAdd]
 ·exact Ev.ret ⟨⟨_,rfl⟩,rfl⟩
 refine Ev.lss (λh1=>?_) (λh1=>?_)<;>try simp -implicitDefEqProofs only[sS,Nat.reduceAdd]
 ·exact Ev.ret ⟨⟨_,rfl⟩,rfl⟩
 refine Ev.gtr (λh1=>?_) (λh1=>?_)<;>try simp -implicitDefEqProofs only[sS,Nat.reduceAdd,ahn]
 ·exact Ev.ret ⟨⟨_,rfl⟩,rfl⟩
 refine Ev.loop (k:=17) (λk vs Hx=>∃(a b d7 d8:Int) (d24 d33 d49 d54:Value),Hx=H∧k≤17∧vs=[uv a,uv b,cv c,cv 0,.bool false,cv ((k:Int)-1),d24,cv d7,uv d8,d33,d49,d54])
  (λr=>r.1= .exit 0∧r.2.2=H∧∃(a b d7:Int) (d8 d9 d24 d33 d49 d54:Value),r.2.1=[uv a,uv b,cv c,cv 0,.bool false,d9,d24,cv d7,d8,d33,d49,d54]) ⟨_,_,_,_,_,_,_,_,rfl,by omega,rfl⟩ ?_ ?_
 ·rintro k vs Hx ⟨a,b,d7,d8,d24,d33,d49,d54,rfl,hk,rfl⟩;simp -implicitDefEqProofs only[Pb,Bw,sS,Nat.reduceAdd];refine Ev.geq (λhq=>?_) (λhq=>?_)<;>try simp -implicitDefEqProofs only[sS,Nat.reduceAdd,PS]
  ·obtain⟨j,rfl⟩: ∃j,k=j+1:=⟨k-1,by omega⟩
   have eb:((j+1:Nat):Int)-1=(j:Int):=by omega
   have hw:IntKind.i64.wrap ((j:Int)-1)=(j:Int)-1:=jE (by omega)
   have mf: ∀(d7 d8:Int) (d24 d33 d49 d54:Value),Ev (λn=>vp (run G n) n [uv a,uv b,cv c,cv 0,.bool false,cv ((j+1:Nat)-1),d24,cv d7,uv d8,d33,d49,d54] Hx) λr=>(r.1= .normal∧∃k',k'<j+1∧∃(a b d7 d8:Int) (d24 d33 d49 d54:Value),r.2.2=Hx∧k'≤17∧r.2.1=[uv a,uv b,cv c,cv 0,.bool false,cv ((k':Int)-1),d24,cv d7,uv d8,d33,d49,d54])∨(r.1≠ .normal∧r.1= .exit 0∧r.2.2=Hx∧∃(a b d7:Int) (d8 d9 d24 d33 d49 d54:Value),r.2.1=[uv a,uv b,cv c,cv 0,.bool false,d9,d24,cv d7,d8,d33,d49,d54]):=by
    intro d7 d8 d24 d33 d49 d54;simp -implicitDefEqProofs only[O9,Bu,sS,Nat.reduceAdd,eb,hw];exact Ev.ret (.inl ⟨rfl,j,by omega,_,_,_,_,_,_,_,_,rfl,by omega,rfl⟩)
   have h2: ∀(d7 d8:Int) (d24 d33 d49 d54:Value),Ev (λn=>yN (run G n) n [uv a,uv b,cv c,cv 0,.bool false,cv ((j+1:Nat)-1),d24,cv d7,uv d8,d33,d49,d54] Hx) λr=>(r.1= .normal∧∃k',k'<j+1∧∃(a b d7 d8:Int) (d24 d33 d49 d54:Value),r.2.2=Hx∧k'≤17∧r.2.1=[uv a,uv b,cv c,cv 0,.bool false,cv ((k':Int)-1),d24,cv d7,uv d8,d33,d49,d54])∨(r.1≠ .normal∧r.1= .exit 0∧r.2.2=Hx∧∃(a b d7:Int) (d8 d9 d24 d33 d49 d54:Value),r.2.1=[uv a,uv b,cv c,cv 0,.bool false,d9,d24,cv d7,d8,d33,d49,d54]):=by
    intro d7 d8 d24 d33 d49 d54;simp -implicitDefEqProofs only[Pa,Bv,sS,Nat.reduceAdd,eb,YE j (by omega),aho,U8]
    refine Ev.eql (λhq=>?_) (λhq=>?_)<;>try simp -implicitDefEqProofs only[sS,Nat.reduceAdd,PS]
    ·have:=mf d7 d8 d24 d33 (.bool true) d54
     rw[eb] at this;exact this
    refine Ev.ac1 (.inr rfl) ?_ ?_ <;>try simp -implicitDefEqProofs only[sS,Nat.reduceAdd,PS,afe]
    ·have:=mf (IntKind.i64.wrap (d7+1)) (IntKind.u64.wrap (d8-IntKind.u64.wrap (b-a))) d24 d33 (.bool false) (.bool true)
     rw[eb] at this;exact this
    ·have:=mf d7 (IntKind.u64.wrap (d8+a)) d24 d33 (.bool false) (.bool false)
     rw[eb] at this;exact this
   refine Ev.ac1 (.inr rfl) ?_ ?_ <;>try simp -implicitDefEqProofs only[sS,Nat.reduceAdd,PS,afe]
   ·exact h2 _ _ _ _ _ _
   ·exact h2 _ _ _ _ _ _
  ·exact Ev.ret (.inr ⟨by simp,rfl,rfl,_,_,_,_,_,_,_,_,_,rfl⟩)
 ·rintro e vs Hx ⟨he,rfl,a,b,d7,d8,d9,d24,d33,d49,d54,rfl⟩;simp only at he;subst he;simp -implicitDefEqProofs only[Pc,By,sS,Nat.reduceAdd];exact Ev.ret ⟨⟨_,rfl⟩,rfl⟩
theorem dk (a b c d:Int):bN (run G) 150 [cv a,cv b,cv c,cv d] H (Cb H):=by
 refine Ev.up (t:=λn=>aaG (run G n) n (cv a) (cv b) (cv c) (cv d) H) ?_ λn=>VQ ..
 simp -implicitDefEqProofs only[aaG,sS,Nat.reduceAdd];repeat' (first|exact Ev.ret ⟨⟨_,rfl⟩,rfl⟩| ((with_reducible first|refine Ev.lss (λhq=>?_) (λhq=>?_)|refine Ev.gtr (λhq=>?_) (λhq=>?_)|refine Ev.leq (λhq=>?_) (λhq=>?_)|refine Ev.geq (λhq=>?_) (λhq=>?_)|refine Ev.eql (λhq=>?_) (λhq=>?_)|refine Ev.neq (λhq=>?_) (λhq=>?_)|refine Ev.off ‹_› (λhq=>?_) (λhq=>?_)|refine Ev.aG (dx _) λz=>?_ |refine Ev.aG (iA _) λz=>?_ |refine Ev.aG (cS _ _) λz=>?_ |refine Ev.aG (bX _ _ _) λz=>?_ |refine Ev.aG (iJ _ _) λz=>?_ |refine Ev.aG (df _) λz=>?_ |refine Ev.aG (dk _ _ _ _) λz=>?_ |refine Ev.num (cQ ‹_› _) λz Hz mz hj hm=>?_ |refine Ev.num (fw ‹_› _ _) λz Hz mz hj hm=>?_ |refine Ev.bool (fx ‹_› _ _ _) λz Hz mz hj hm=>?_ |refine Ev.un (cO ‹_› _ _) λz Hz mz hj hm=>?_ |refine Ev.dB (dj ‹_›) λz zb Hz mz hj hm=>?_ |refine Ev.br (λhq=>?_) (λhq=>?_))<;>try simp -implicitDefEqProofs only[sS,Nat.reduceAdd]))
 all_goals
  refine Ev.call (YG _ _) ?_;rintro v H' ⟨⟨z1,rfl⟩,rfl⟩;refine Ev.call (YG _ _) ?_;rintro v H' ⟨⟨z2,rfl⟩,rfl⟩
  try simp -implicitDefEqProofs only[sS,Nat.reduceAdd]
  refine Ev.aG (Xw _ _ _) λz=>?_
  try simp -implicitDefEqProofs only[sS,Nat.reduceAdd]
  exact Ev.ret ⟨⟨_,rfl⟩,rfl⟩
theorem dp (h:J K p m H)(a k:Int):bN (run G) 134 [pv p,cv a,cv k] H (Xu K p (m-1)):=by
 refine Ev.up (t:=λn=>Z1 (run G n) n (pv p) (cv a) (cv k) H) ?_ λn=>Vo ..
 simp -implicitDefEqProofs only[Z1,sS,Nat.reduceAdd];have L5: ∀(d z:Int) (x6 x7 bq aK cy cz aU dV aP eO je aR l7 ij aW iP ka:Value) (m1:Nat) (H1:ae),J K p m1 H1→m1≤m-1→(∃i,aW=cv i)→
   Ev (λn=>cI (iter n (Fk (run G n) n) [pv p,cv a,cv k,x6,x7,cv d,cv z,bq,aK,cy,cz,aU,dV,aP,eO,je,aR,l7,ij,aW,iP,ka] H1) (dr 2 (dv (Fl (run G n) n) (eE Tryz.prog [.tmp 6,.tmp 7] [0,1,2,6,7,8,9,21,10,29,32,11,41,12,56,68,13,79,88,14,103,112])))) λr=>Xu K p (m-1) r.1 r.2:=by
  rintro d z x6 x7 bq aK cy cz aU dV aP eO je aR l7 ij aW iP ka m1 H1 kY Np ⟨i,rfl⟩;refine Ev.D9 (λvs=>∃(i:Int) (x6 x7 bq aK cy cz aU dV aP eO je aR l7 ij iP ka:Value),vs=[pv p,cv a,cv k,x6,x7,cv d,cv z,bq,aK,cy,cz,aU,dV,aP,eO,je,aR,l7,ij,cv i,iP,ka])
   (λe vs=>(e= .exit 2∨(e= .ret∧∃u,vs[3]? =some (cv d)∧vs[4]? =some (cv u)))∧∃(x6 x7 bq aK cy cz aU dV aP eO je aR l7 ij aW iP ka:Value),vs=[pv p,cv a,cv k,x6,x7,cv d,cv z,bq,aK,cy,cz,aU,dV,aP,eO,je,aR,l7,ij,aW,iP,ka]) kY ⟨_,_,_,_,_,_,_,_,_,_,_,_,_,_,_,_,_,rfl⟩ ?_ ?_
  ·rintro m1 vs H1 hj hm ⟨i,x6,x7,bq,aK,cy,cz,aU,dV,aP,eO,je,aR,l7,ij,iP,ka,rfl⟩;simp -implicitDefEqProofs only[Oa,Al,sS,Nat.reduceAdd];repeat' (first|exact Ev.ret (.inl ⟨rfl,⟨_,by assumption,by omega⟩,_,_,_,_,_,_,_,_,_,_,_,_,_,_,_,_,_,rfl⟩)|exact Ev.ret (.inr ⟨by simp,⟨_,by assumption,by omega⟩,.inl rfl,_,_,_,_,_,_,_,_,_,_,_,_,_,_,_,_,_,rfl⟩)|exact Ev.ret (.inr ⟨by simp,⟨_,by assumption,by omega⟩,.inr ⟨rfl,_,rfl,rfl⟩,_,_,_,_,_,_,_,_,_,_,_,_,_,_,_,_,_,rfl⟩)| ((with_reducible first|refine Ev.lss (λhq=>?_) (λhq=>?_)|refine Ev.gtr (λhq=>?_) (λhq=>?_)|refine Ev.leq (λhq=>?_) (λhq=>?_)|refine Ev.geq (λhq=>?_) (λhq=>?_)|refine Ev.eql (λhq=>?_) (λhq=>?_)|refine Ev.neq (λhq=>?_) (λhq=>?_)|refine Ev.off ‹_› (λhq=>?_) (λhq=>?_)|refine Ev.aG (dx _) λz=>?_ |refine Ev.aG (iA _) λz=>?_ |refine Ev.aG (cS _ _) λz=>?_ |refine Ev.aG (bX _ _ _) λz=>?_ |refine Ev.aG (iJ _ _) λz=>?_ |refine Ev.aG (df _) λz=>?_ |refine Ev.aG (dk _ _ _ _) λz=>?_ |refine Ev.num (cQ ‹_› _) λz Hz mz hj hm=>?_ |refine Ev.num (fw ‹_› _ _) λz Hz mz hj hm=>?_ |refine Ev.bool (fx ‹_› _ _ _) λz Hz mz hj hm=>?_ |refine Ev.un (cO ‹_› _ _) λz Hz mz hj hm=>?_ |refine Ev.dB (dj ‹_›) λz zb Hz mz hj hm=>?_ |refine Ev.kc (dp ‹_› _ _) λz zb Hz mz hj hm=>?_ |refine Ev.br (λhq=>?_) (λhq=>?_))<;>try simp -implicitDefEqProofs only[sS,Nat.reduceAdd]))
  ·rintro e vs m2 H2 hj hm ⟨he,x6,x7,bq,aK,cy,cz,aU,dV,aP,eO,je,aR,l7,ij,aW,iP,ka,rfl⟩;rcases he with rfl|⟨rfl,u,e1,e2⟩
   ·simp -implicitDefEqProofs only[Ob,An,sS,Nat.reduceAdd];repeat' (first|exact Ev.ret ⟨_,_,rfl,_,by assumption,by omega⟩| ((with_reducible first|refine Ev.lss (λhq=>?_) (λhq=>?_)|refine Ev.gtr (λhq=>?_) (λhq=>?_)|refine Ev.leq (λhq=>?_) (λhq=>?_)|refine Ev.geq (λhq=>?_) (λhq=>?_)|refine Ev.eql (λhq=>?_) (λhq=>?_)|refine Ev.neq (λhq=>?_) (λhq=>?_)|refine Ev.off ‹_› (λhq=>?_) (λhq=>?_)|refine Ev.aG (dx _) λz=>?_ |refine Ev.aG (iA _) λz=>?_ |refine Ev.aG (cS _ _) λz=>?_ |refine Ev.aG (bX _ _ _) λz=>?_ |refine Ev.aG (iJ _ _) λz=>?_ |refine Ev.aG (df _) λz=>?_ |refine Ev.aG (dk _ _ _ _) λz=>?_ |refine Ev.num (cQ ‹_› _) λz Hz mz hj hm=>?_ |refine Ev.num (fw ‹_› _ _) λz Hz mz hj hm=>?_ |refine Ev.bool (fx ‹_› _ _ _) λz Hz mz hj hm=>?_ |refine Ev.un (cO ‹_› _ _) λz Hz mz hj hm=>?_ |refine Ev.dB (dj ‹_›) λz zb Hz mz hj hm=>?_ |refine Ev.kc (dp ‹_› _ _) λz zb Hz mz hj hm=>?_ |refine Ev.br (λhq=>?_) (λhq=>?_))<;>try simp -implicitDefEqProofs only[sS,Nat.reduceAdd]))
   ·simp only[List.getElem?_cons_succ,List.getElem?_cons_zero,Option.some.injEq] at e1 e2;subst e1 e2;show Ev (λ_=>some (Value.tuple #[cv d,cv u],H2)) _
    exact Ev.ret ⟨_,_,rfl,_,hj,by omega⟩
 have L0: ∀(d z:Int) (x6 x7 bq aK cy cz aU dV aP eO je aR l7 ij aW iP ka:Value) (m1:Nat) (H1:ae),J K p m1 H1→m1≤m-1→(∃i,aR=cv i)→
   Ev (λn=>cI (iter n (E9 (run G n) n) [pv p,cv a,cv k,x6,x7,cv d,cv z,bq,aK,cy,cz,aU,dV,aP,eO,je,aR,l7,ij,aW,iP,ka] H1) (dr 0 (dv (Fa (run G n) n) (dv (Ma (run G n) n) (eE Tryz.prog [.tmp 6,.tmp 7] [0,1,2,6,7,8,9,21,10,29,32,11,41,12,56,68,13,79,88,14,103,112]))))) λr=>Xu K p (m-1) r.1 r.2:=by
  rintro d z x6 x7 bq aK cy cz aU dV aP eO je aR l7 ij aW iP ka m1 H1 kY Np ⟨i,rfl⟩;refine Ev.D9 (λvs=>∃(i:Int) (x6 x7 bq aK cy cz aU dV aP eO je l7 ij aW iP ka:Value),vs=[pv p,cv a,cv k,x6,x7,cv d,cv z,bq,aK,cy,cz,aU,dV,aP,eO,je,cv i,l7,ij,aW,iP,ka])
   (λe vs=>(e= .exit 0∨(e= .ret∧∃u,vs[3]? =some (cv d)∧vs[4]? =some (cv u)))∧∃(x6 x7 bq aK cy cz aU dV aP eO je aR l7 ij aW iP ka:Value),vs=[pv p,cv a,cv k,x6,x7,cv d,cv z,bq,aK,cy,cz,aU,dV,aP,eO,je,aR,l7,ij,aW,iP,ka]) kY ⟨_,_,_,_,_,_,_,_,_,_,_,_,_,_,_,_,_,rfl⟩ ?_ ?_
  ·rintro m1 vs H1 hj hm ⟨i,x6,x7,bq,aK,cy,cz,aU,dV,aP,eO,je,l7,ij,aW,iP,ka,rfl⟩;simp -implicitDefEqProofs only[N6,Ae,sS,Nat.reduceAdd];repeat' (first|exact Ev.ret (.inl ⟨rfl,⟨_,by assumption,by omega⟩,_,_,_,_,_,_,_,_,_,_,_,_,_,_,_,_,_,rfl⟩)|exact Ev.ret (.inr ⟨by simp,⟨_,by assumption,by omega⟩,.inl rfl,_,_,_,_,_,_,_,_,_,_,_,_,_,_,_,_,_,rfl⟩)|exact Ev.ret (.inr ⟨by simp,⟨_,by assumption,by omega⟩,.inr ⟨rfl,_,rfl,rfl⟩,_,_,_,_,_,_,_,_,_,_,_,_,_,_,_,_,_,rfl⟩)| ((with_reducible first|refine Ev.lss (λhq=>?_) (λhq=>?_)|refine Ev.gtr (λhq=>?_) (λhq=>?_)|refine Ev.leq (λhq=>?_) (λhq=>?_)|refine Ev.geq (λhq=>?_) (λhq=>?_)|refine Ev.eql (λhq=>?_) (λhq=>?_)|refine Ev.neq (λhq=>?_) (λhq=>?_)|refine Ev.off ‹_› (λhq=>?_) (λhq=>?_)|refine Ev.aG (dx _) λz=>?_ |refine Ev.aG (iA _) λz=>?_ |refine Ev.aG (cS _ _) λz=>?_ |refine Ev.aG (bX _ _ _) λz=>?_ |refine Ev.aG (iJ _ _) λz=>?_ |refine Ev.aG (df _) λz=>?_ |refine Ev.aG (dk _ _ _ _) λz=>?_ |refine Ev.num (cQ ‹_› _) λz Hz mz hj hm=>?_ |refine Ev.num (fw ‹_› _ _) λz Hz mz hj hm=>?_ |refine Ev.bool (fx ‹_› _ _ _) λz Hz mz hj hm=>?_ |refine Ev.un (cO ‹_› _ _) λz Hz mz hj hm=>?_ |refine Ev.dB (dj ‹_›) λz zb Hz mz hj hm=>?_ |refine Ev.kc (dp ‹_› _ _) λz zb Hz mz hj hm=>?_ |refine Ev.br (λhq=>?_) (λhq=>?_))<;>try simp -implicitDefEqProofs only[sS,Nat.reduceAdd]))
  ·rintro e vs m2 H2 hj hm ⟨he,x6,x7,bq,aK,cy,cz,aU,dV,aP,eO,je,aR,l7,ij,aW,iP,ka,rfl⟩;rcases he with rfl|⟨rfl,u,e1,e2⟩
   ·simp -implicitDefEqProofs only[N7,Ag,sS,Nat.reduceAdd];repeat' (first|exact Ev.ret ⟨_,_,rfl,_,by assumption,by omega⟩| ((with_reducible first|refine Ev.lss (λhq=>?_) (λhq=>?_)|refine Ev.gtr (λhq=>?_) (λhq=>?_)|refine Ev.leq (λhq=>?_) (λhq=>?_)|refine Ev.geq (λhq=>?_) (λhq=>?_)|refine Ev.eql (λhq=>?_) (λhq=>?_)|refine Ev.neq (λhq=>?_) (λhq=>?_)|refine Ev.off ‹_› (λhq=>?_) (λhq=>?_)|refine Ev.aG (dx _) λz=>?_ |refine Ev.aG (iA _) λz=>?_ |refine Ev.aG (cS _ _) λz=>?_ |refine Ev.aG (bX _ _ _) λz=>?_ |refine Ev.aG (iJ _ _) λz=>?_ |refine Ev.aG (df _) λz=>?_ |refine Ev.aG (dk _ _ _ _) λz=>?_ |refine Ev.num (cQ ‹_› _) λz Hz mz hj hm=>?_ |refine Ev.num (fw ‹_› _ _) λz Hz mz hj hm=>?_ |refine Ev.bool (fx ‹_› _ _ _) λz Hz mz hj hm=>?_ |refine Ev.un (cO ‹_› _ _) λz Hz mz hj hm=>?_ |refine Ev.dB (dj ‹_›) λz zb Hz mz hj hm=>?_ |refine Ev.kc (dp ‹_› _ _) λz zb Hz mz hj hm=>?_ |refine Ev.br (λhq=>?_) (λhq=>?_))<;>try simp -implicitDefEqProofs only[sS,Nat.reduceAdd]))
   ·simp only[List.getElem?_cons_succ,List.getElem?_cons_zero,Option.some.injEq] at e1 e2;subst e1 e2;show Ev (λ_=>some (Value.tuple #[cv d,cv u],H2)) _
    exact Ev.ret ⟨_,_,rfl,_,hj,by omega⟩
 repeat' (first|exact Ev.ret ⟨_,_,rfl,_,by assumption,by omega⟩|exact L5 _ _ _ _ _ _ _ _ _ _ _ _ _ _ _ _ _ _ _ _ _ ‹_› (by omega) ⟨_,rfl⟩|exact L0 _ _ _ _ _ _ _ _ _ _ _ _ _ _ _ _ _ _ _ _ _ ‹_› (by omega) ⟨_,rfl⟩| ((with_reducible first|refine Ev.lss (λhq=>?_) (λhq=>?_)|refine Ev.gtr (λhq=>?_) (λhq=>?_)|refine Ev.leq (λhq=>?_) (λhq=>?_)|refine Ev.geq (λhq=>?_) (λhq=>?_)|refine Ev.eql (λhq=>?_) (λhq=>?_)|refine Ev.neq (λhq=>?_) (λhq=>?_)|refine Ev.off ‹_› (λhq=>?_) (λhq=>?_)|refine Ev.aG (dx _) λz=>?_ |refine Ev.aG (iA _) λz=>?_ |refine Ev.aG (cS _ _) λz=>?_ |refine Ev.aG (bX _ _ _) λz=>?_ |refine Ev.aG (iJ _ _) λz=>?_ |refine Ev.aG (df _) λz=>?_ |refine Ev.aG (dk _ _ _ _) λz=>?_ |refine Ev.num (cQ ‹_› _) λz Hz mz hj hm=>?_ |refine Ev.num (fw ‹_› _ _) λz Hz mz hj hm=>?_ |refine Ev.bool (fx ‹_› _ _ _) λz Hz mz hj hm=>?_ |refine Ev.un (cO ‹_› _ _) λz Hz mz hj hm=>?_ |refine Ev.dB (dj ‹_›) λz zb Hz mz hj hm=>?_ |refine Ev.kc (dp ‹_› _ _) λz zb Hz mz hj hm=>?_ |refine Ev.br (λhq=>?_) (λhq=>?_))<;>try simp -implicitDefEqProofs only[sS,Nat.reduceAdd]))
theorem fj (h:J K p m H)(a:Int):bN (run G) 130 [pv p,cv a] H (UF K p (m-1)):=by
 refine Ev.up (t:=λn=>aaZ (run G n) n (pv p) (cv a) H) ?_ λn=>V2 ..
 simp -implicitDefEqProofs only[aaZ,sS,Nat.reduceAdd];repeat' (first|exact Ev.ret ⟨_,rfl,_,by assumption,by omega⟩| ((with_reducible first|refine Ev.lss (λhq=>?_) (λhq=>?_)|refine Ev.gtr (λhq=>?_) (λhq=>?_)|refine Ev.leq (λhq=>?_) (λhq=>?_)|refine Ev.geq (λhq=>?_) (λhq=>?_)|refine Ev.eql (λhq=>?_) (λhq=>?_)|refine Ev.neq (λhq=>?_) (λhq=>?_)|refine Ev.off ‹_› (λhq=>?_) (λhq=>?_)|refine Ev.aG (dx _) λz=>?_ |refine Ev.aG (iA _) λz=>?_ |refine Ev.aG (cS _ _) λz=>?_ |refine Ev.aG (bX _ _ _) λz=>?_ |refine Ev.aG (iJ _ _) λz=>?_ |refine Ev.aG (df _) λz=>?_ |refine Ev.aG (dk _ _ _ _) λz=>?_ |refine Ev.num (cQ ‹_› _) λz Hz mz hj hm=>?_ |refine Ev.num (fw ‹_› _ _) λz Hz mz hj hm=>?_ |refine Ev.num (fj ‹_› _) λz Hz mz hj hm=>?_ |refine Ev.bool (fx ‹_› _ _ _) λz Hz mz hj hm=>?_ |refine Ev.un (cO ‹_› _ _) λz Hz mz hj hm=>?_ |refine Ev.dB (dj ‹_›) λz zb Hz mz hj hm=>?_ |refine Ev.kc (dp ‹_› _ _) λz zb Hz mz hj hm=>?_ |refine Ev.br (λhq=>?_) (λhq=>?_))<;>try simp -implicitDefEqProofs only[sS,Nat.reduceAdd]))
theorem fY (h:J K p m H)(a:Int):bN (run G) 131 [pv p,cv a] H (Un K p (m-1)):=by
 refine Ev.up (t:=λn=>aam (run G n) n (pv p) (cv a) H) ?_ λn=>VB ..
 simp -implicitDefEqProofs only[aam,Om,Aw,On,Ax,sS,Nat.reduceAdd];repeat' (first|exact Ev.ret ⟨_,by assumption,by omega⟩| ((with_reducible first|refine Ev.lss (λhq=>?_) (λhq=>?_)|refine Ev.gtr (λhq=>?_) (λhq=>?_)|refine Ev.leq (λhq=>?_) (λhq=>?_)|refine Ev.geq (λhq=>?_) (λhq=>?_)|refine Ev.eql (λhq=>?_) (λhq=>?_)|refine Ev.neq (λhq=>?_) (λhq=>?_)|refine Ev.off ‹_› (λhq=>?_) (λhq=>?_)|refine Ev.aG (dx _) λz=>?_ |refine Ev.aG (iA _) λz=>?_ |refine Ev.aG (cS _ _) λz=>?_ |refine Ev.aG (bX _ _ _) λz=>?_ |refine Ev.aG (iJ _ _) λz=>?_ |refine Ev.aG (df _) λz=>?_ |refine Ev.aG (dk _ _ _ _) λz=>?_ |refine Ev.num (cQ ‹_› _) λz Hz mz hj hm=>?_ |refine Ev.num (fw ‹_› _ _) λz Hz mz hj hm=>?_ |refine Ev.num (fj ‹_› _) λz Hz mz hj hm=>?_ |refine Ev.bool (fx ‹_› _ _ _) λz Hz mz hj hm=>?_ |refine Ev.un (cO ‹_› _ _) λz Hz mz hj hm=>?_ |refine Ev.un (fY ‹_› _) λz Hz mz hj hm=>?_ |refine Ev.dB (dj ‹_›) λz zb Hz mz hj hm=>?_ |refine Ev.kc (dp ‹_› _ _) λz zb Hz mz hj hm=>?_ |refine Ev.br (λhq=>?_) (λhq=>?_))<;>try simp -implicitDefEqProofs only[sS,Nat.reduceAdd]))
theorem fZ (h:J K p m H)(a:Int):bN (run G) 132 [pv p,cv a] H (UF K p (m-1)):=by
 refine Ev.up (t:=λn=>aa0 (run G n) n (pv p) (cv a) H) ?_ λn=>V3 ..
 simp -implicitDefEqProofs only[aa0,sS,Nat.reduceAdd];refine Ev.num (cQ h a) λz0 H0 m0 Co hm0=>?_
 refine Ev.D9 (λvs=>∃(z:Int) (d:Value),vs=[pv p,cv a,cv 0,cv z,d]) (λe vs=>e= .exit 0∧∃(z:Int) (d:Value),vs=[pv p,cv a,cv 0,cv z,d]) Co ⟨_,_,rfl⟩ ?_ ?_
 ·rintro m1 vs Hx hj hk ⟨z,d,rfl⟩;simp -implicitDefEqProofs only[OH,AQ,sS,Nat.reduceAdd];repeat' (first|exact Ev.ret (.inl ⟨rfl,⟨_,by assumption,by omega⟩,_,_,rfl⟩)|exact Ev.ret (.inr ⟨by simp,⟨_,by assumption,by omega⟩,rfl,_,_,rfl⟩)| ((with_reducible first|refine Ev.lss (λhq=>?_) (λhq=>?_)|refine Ev.gtr (λhq=>?_) (λhq=>?_)|refine Ev.leq (λhq=>?_) (λhq=>?_)|refine Ev.geq (λhq=>?_) (λhq=>?_)|refine Ev.eql (λhq=>?_) (λhq=>?_)|refine Ev.neq (λhq=>?_) (λhq=>?_)|refine Ev.off ‹_› (λhq=>?_) (λhq=>?_)|refine Ev.aG (dx _) λz=>?_ |refine Ev.aG (iA _) λz=>?_ |refine Ev.aG (cS _ _) λz=>?_ |refine Ev.aG (bX _ _ _) λz=>?_ |refine Ev.aG (iJ _ _) λz=>?_ |refine Ev.aG (df _) λz=>?_ |refine Ev.aG (dk _ _ _ _) λz=>?_ |refine Ev.num (cQ ‹_› _) λz Hz mz hj hm=>?_ |refine Ev.num (fw ‹_› _ _) λz Hz mz hj hm=>?_ |refine Ev.num (fj ‹_› _) λz Hz mz hj hm=>?_ |refine Ev.num (fZ ‹_› _) λz Hz mz hj hm=>?_ |refine Ev.bool (fx ‹_› _ _ _) λz Hz mz hj hm=>?_ |refine Ev.un (cO ‹_› _ _) λz Hz mz hj hm=>?_ |refine Ev.un (fY ‹_› _) λz Hz mz hj hm=>?_ |refine Ev.dB (dj ‹_›) λz zb Hz mz hj hm=>?_ |refine Ev.kc (dp ‹_› _ _) λz zb Hz mz hj hm=>?_ |refine Ev.br (λhq=>?_) (λhq=>?_))<;>try simp -implicitDefEqProofs only[sS,Nat.reduceAdd]))
 ·rintro e vs m1 Hx hj hm ⟨rfl,z,d,rfl⟩;simp -implicitDefEqProofs only[OI,AR,sS,Nat.reduceAdd];exact Ev.ret ⟨_,rfl,_,hj,by omega⟩
theorem eV (h:J K p m H)(a k:Int):bN (run G) 151 [pv p,cv a,cv k] H (UF K p (m-1)):=by
 refine Ev.up (t:=λn=>Z4 (run G n) n (pv p) (cv a) (cv k) H) ?_ λn=>Vq ..
 simp -implicitDefEqProofs only[Z4,sS,Nat.reduceAdd];repeat' (first|exact Ev.ret ⟨_,rfl,_,by assumption,by omega⟩| ((with_reducible first|refine Ev.lss (λhq=>?_) (λhq=>?_)|refine Ev.gtr (λhq=>?_) (λhq=>?_)|refine Ev.leq (λhq=>?_) (λhq=>?_)|refine Ev.geq (λhq=>?_) (λhq=>?_)|refine Ev.eql (λhq=>?_) (λhq=>?_)|refine Ev.neq (λhq=>?_) (λhq=>?_)|refine Ev.off ‹_› (λhq=>?_) (λhq=>?_)|refine Ev.aG (dx _) λz=>?_ |refine Ev.aG (iA _) λz=>?_ |refine Ev.aG (cS _ _) λz=>?_ |refine Ev.aG (bX _ _ _) λz=>?_ |refine Ev.aG (iJ _ _) λz=>?_ |refine Ev.aG (df _) λz=>?_ |refine Ev.aG (dk _ _ _ _) λz=>?_ |refine Ev.num (cQ ‹_› _) λz Hz mz hj hm=>?_ |refine Ev.num (fw ‹_› _ _) λz Hz mz hj hm=>?_ |refine Ev.num (fj ‹_› _) λz Hz mz hj hm=>?_ |refine Ev.num (fZ ‹_› _) λz Hz mz hj hm=>?_ |refine Ev.num (eV ‹_› _ _) λz Hz mz hj hm=>?_ |refine Ev.bool (fx ‹_› _ _ _) λz Hz mz hj hm=>?_ |refine Ev.un (cO ‹_› _ _) λz Hz mz hj hm=>?_ |refine Ev.un (fY ‹_› _) λz Hz mz hj hm=>?_ |refine Ev.dB (dj ‹_›) λz zb Hz mz hj hm=>?_ |refine Ev.kc (dp ‹_› _ _) λz zb Hz mz hj hm=>?_ |refine Ev.br (λhq=>?_) (λhq=>?_))<;>try simp -implicitDefEqProofs only[sS,Nat.reduceAdd]))
theorem gO (h:J K p m H)(k:Int):bN (run G) 135 [pv p,cv k] H (ID K p m):=by
 refine Ev.up (t:=λn=>aan (run G n) n (pv p) (cv k) H) ?_ λn=>VC ..
 simp -implicitDefEqProofs only[aan,sS,Nat.reduceAdd];refine Ev.D9 (λvs=>∃(i:Int) (x4 x5 aR x7 bU bY x8 cJ bW dL:Value),vs=[pv p,cv k,x4,x5,aR,cv i,x7,bU,bY,x8,cJ,bW,dL])
  (λe vs=>(e= .exit 0∨(e= .ret∧∃u b,vs[2]? =some (cv u)∧vs[3]? =some (.bool b)))∧∃(x4 x5 aR x6 x7 bU bY x8 cJ bW dL:Value),vs=[pv p,cv k,x4,x5,aR,x6,x7,bU,bY,x8,cJ,bW,dL]) h ⟨_,_,_,_,_,_,_,_,_,_,_,rfl⟩ ?_ ?_
 ·rintro m1 vs Hx hj hk ⟨i,x4,x5,aR,x7,bU,bY,x8,cJ,bW,dL,rfl⟩;simp -implicitDefEqProofs only[Oo,Ay,sS,Nat.reduceAdd];repeat' (first|exact Ev.ret (.inl ⟨rfl,⟨_,by assumption,by omega⟩,_,_,_,_,_,_,_,_,_,_,_,rfl⟩)|exact Ev.ret (.inr ⟨by simp,⟨_,by assumption,by omega⟩,.inl rfl,_,_,_,_,_,_,_,_,_,_,_,rfl⟩)|exact Ev.ret (.inr ⟨by simp,⟨_,by assumption,by omega⟩,.inr ⟨rfl,_,_,rfl,rfl⟩,_,_,_,_,_,_,_,_,_,_,_,rfl⟩)| ((with_reducible first|refine Ev.lss (λhq=>?_) (λhq=>?_)|refine Ev.gtr (λhq=>?_) (λhq=>?_)|refine Ev.leq (λhq=>?_) (λhq=>?_)|refine Ev.geq (λhq=>?_) (λhq=>?_)|refine Ev.eql (λhq=>?_) (λhq=>?_)|refine Ev.neq (λhq=>?_) (λhq=>?_)|refine Ev.off ‹_› (λhq=>?_) (λhq=>?_)|refine Ev.aG (dx _) λz=>?_ |refine Ev.aG (iA _) λz=>?_ |refine Ev.aG (cS _ _) λz=>?_ |refine Ev.aG (bX _ _ _) λz=>?_ |refine Ev.aG (iJ _ _) λz=>?_ |refine Ev.aG (df _) λz=>?_ |refine Ev.aG (dk _ _ _ _) λz=>?_ |refine Ev.num (cQ ‹_› _) λz Hz mz hj hm=>?_ |refine Ev.num (fw ‹_› _ _) λz Hz mz hj hm=>?_ |refine Ev.num (fj ‹_› _) λz Hz mz hj hm=>?_ |refine Ev.num (fZ ‹_› _) λz Hz mz hj hm=>?_ |refine Ev.num (eV ‹_› _ _) λz Hz mz hj hm=>?_ |refine Ev.bool (fx ‹_› _ _ _) λz Hz mz hj hm=>?_ |refine Ev.un (cO ‹_› _ _) λz Hz mz hj hm=>?_ |refine Ev.un (fY ‹_› _) λz Hz mz hj hm=>?_ |refine Ev.dB (dj ‹_›) λz zb Hz mz hj hm=>?_ |refine Ev.dB (gO ‹_› _) λz zb Hz mz hj hm=>?_ |refine Ev.kc (dp ‹_› _ _) λz zb Hz mz hj hm=>?_ |refine Ev.br (λhq=>?_) (λhq=>?_))<;>try simp -implicitDefEqProofs only[sS,Nat.reduceAdd]))
 ·rintro e vs m1 Hx hj hm ⟨he,x4,x5,aR,x6,x7,bU,bY,x8,cJ,bW,dL,rfl⟩;rcases he with rfl|⟨rfl,u,b,e1,e2⟩
  ·simp -implicitDefEqProofs only[Oq,Az,sS,Nat.reduceAdd];exact Ev.ret ⟨_,_,rfl,_,hj,by omega⟩
  ·simp only[List.getElem?_cons_succ,List.getElem?_cons_zero,Option.some.injEq] at e1 e2;subst e1 e2;show Ev (λ_=>some (Value.tuple #[cv u,.bool b],Hx)) _
   exact Ev.ret ⟨_,_,rfl,_,hj,by omega⟩
end
section
variable {G:ag} {H H':ae} {o o':an} {p m:Nat} {K:ae→an→Prop}
theorem j5 (o:an): ∀n:Nat,∃t:Int,t< -100∧∀i,i<n→t<o i
 |0=>⟨-101,by omega,λi h=>by omega⟩
 |n+1=>by
  obtain⟨t,h1,h2⟩:=j5 o n;refine⟨min t (o n)-1,by omega,λi hi=>?_⟩
  rcases Nat.lt_or_ge i n with g|g
  ·have:=h2 i g;omega
  ·have:i=n:=by omega
   subst this;omega
theorem nI {t:Int}{ps:List Int}(f:Fr H o H' o' (t::ps))(h: ∀i,i<H.length→o i≠t):Fr H o H' o' ps:=
 ⟨λi hi hn=>f.slot i hi (by simp only[List.mem_cons,not_or];exact⟨h i hi,hn⟩),f.own,f.size⟩
theorem J.words (h:J K p m H)(l:List Int)(t:TypeId):JW K p m (H.new ⟨l.map cv,t,1,false⟩) (.slice (some ⟨H.length,0,none⟩) l.length l.length):=by
 obtain⟨hK,o,hr,hk⟩:=h;have f:Fr H o (H.new ⟨l.map cv,t,1,false⟩) (o.up H.length (-51)) []:=(Fr.refl H o []).new _ _;exact⟨hK,_,hr.fr f (by simp) (by simp) (by simp),hK _ _ _ _ hk (f.wk (by simp)),l,(rJ.new H o (-51) t l).ints⟩
theorem Gv (a:Int)(H:ae):aw Tryz.prog 52 1 [(0,cv a)] H=some (.slice (some ⟨H.length,0,none⟩) 1 1,H.new ⟨[cv a],2,1,false⟩):=by kernel_rfl
theorem ac2 (a b:Int)(H:ae):aw Tryz.prog 52 2 [(0,cv a),(1,cv b)] H=some (.slice (some ⟨H.length,0,none⟩) 2 2,H.new ⟨[cv a,cv b],2,1,false⟩):=by kernel_rfl
theorem Xx (a b c d e:Int)(H:ae):aw Tryz.prog 52 5 [(0,cv a),(1,cv b),(2,cv c),(3,cv d),(4,cv e)] H=some (.slice (some ⟨H.length,0,none⟩) 5 5,H.new ⟨[cv a,cv b,cv c,cv d,cv e],2,1,false⟩):=by kernel_rfl
theorem cP (h:J K p m H)(a b c d:Int):bN (run G) 149 [cv a,cv b,cv c,cv d] H λw H'=>JW K p m H' w:=by
 refine Ev.up (t:=λn=>ab3 (run G n) n (cv a) (cv b) (cv c) (cv d) H) ?_ λn=>WA ..
 simp -implicitDefEqProofs only[ab3,Xx,sS,Nat.reduceAdd];exact Ev.ret (h.words [a,b,c,d,0] _)
theorem bM (h:J K p m H)(a b c:Int):bN (run G) 157 [cv a,cv b,cv c] H λw H'=>JW K p m H' w:=by
 refine Ev.up (t:=λn=>Z8 (run G n) n (cv a) (cv b) (cv c) H) ?_ λn=>Vr ..
 simp -implicitDefEqProofs only[Z8,Xx,sS,Nat.reduceAdd];exact Ev.ret (h.words [a,b,c,0,0] _)
theorem cu (h:J K p m H):bN (run G) 64 [] H λw H'=>JW K p m H' w:=by
 refine Ev.up (t:=λn=>F64 (run G n) n H) ?_ λn=>KF ..
 simp -implicitDefEqProofs only[F64,Gv,sS,Nat.reduceAdd];exact Ev.ret (h.words [0] _)
theorem cL (h:J K p m H)(a b:Int):bN (run G) 97 [cv a,cv b] H λw H'=>JW K p m H' w:=by
 refine Ev.up (t:=λn=>F97 (run G n) n (cv a) (cv b) H) ?_ λn=>aaB ..
 simp -implicitDefEqProofs only[F97,ac2,sS,Nat.reduceAdd];exact Ev.ret (h.words [a,b] _)
theorem pL (h:J K p m H)(s:Int){q c:Value}{lq lc:List Int}(hq:jb H q lq)(hc:jb H c lc)(hl:lq.length+lc.length≤1000000):
  bN (run G) 62 [cv s,q,c] H λw H'=>JW K p m H' w:=by
 refine Ev.up (t:=λn=>F62 (run G n) n (cv s) q c H) ?_ λn=>SC ..
 simp -implicitDefEqProofs only[F62,hq.len,hc.len,sS,Nat.reduceAdd];refine Ev.neq (λh1=>?_) (λh1=>?_)<;>try simp -implicitDefEqProofs only[hc.len,Xx,sS,Nat.reduceAdd]
 ·exact Ev.ret h.TB
 obtain⟨hK,o,hr,hk⟩:=h;obtain⟨t,ht,hf⟩:=j5 o H.length;have s1:=rJ.new H o t 2 [(lc.length:Int),s,0,0,0];have f1:Fr H o (H.new ⟨[cv lc.length,cv s,cv 0,cv 0,cv 0],2,1,false⟩) (o.up H.length t) [t]:=(Fr.refl H o [t]).new _ _;obtain⟨H1,e1⟩: ∃z,z=H.new ⟨[cv lc.length,cv s,cv 0,cv 0,cv 0],2,1,false⟩:=⟨_,rfl⟩;have keep: ∀{x:Value} {l:List Int} {H2:ae} {o2:an},jb H x l→Fr H o H2 o2 [t]→jb H2 x l:=λhx f=>hx.keep λi b e eC=>by
  rcases hx with⟨e1,e2⟩|⟨j,off,cc,e1,hb⟩
  ·exact absurd e2 eC
  ·obtain⟨bb,g1,_⟩:=hb eC;rw[e1] at e;cases e;exact f.same j (aq g1) (by have:=hf j (aq g1);simp;omega)
 obtain⟨x2,H2,o2,a2,s2,f2,_⟩:=mL (H:=H1) 2 (by rw[e1];exact s1) (keep hq (by rw[e1];exact f1)) (by simp;omega)
 have f12:Fr H o H2 o2 [t]:=by rw[e1] at f2;exact f1.tr f2
 obtain⟨x3,H3,o3,a3,s3,f3,_⟩:=mL 2 s2 (keep hc f12) (by simp;omega)
 have f13:=f12.tr f3;have eH:H.new ⟨[cv lc.length,cv s,cv 0,cv 0,cv 0],2,1,false⟩=H1:=e1.symm;simp -implicitDefEqProofs only[eH,List.length_cons,List.length_nil,sS,Nat.reduceAdd] at a2;simp -implicitDefEqProofs only[eH,a2,a3,sS,Nat.reduceAdd];have f0:Fr H o H3 o3 []:=nI f13 λi hi=>by have:=hf i hi;omega
 let o4:an:=λi=>if H.length≤i∧o3 i=t then -51 else o3 i
 have f4:Fr H o H3 o4 []:=⟨f0.slot,λi hi=>by show(if H.length≤i∧o3 i=t then(-51:Int) else o3 i)=_;rw[if_neg (by omega)];exact f0.own i hi,f0.size⟩
 refine Ev.ret ⟨hK,o4,hr.fr f4 (by simp) (by simp) (by simp),hK _ _ _ _ hk (f4.wk (by simp)),_,s3.ints.1,λb n cc e eC=>?_⟩
 obtain⟨g1,g2⟩:=s3.ints.2 b n cc e eC;refine⟨g1,?_⟩;show(if H.length≤b.block∧o3 b.block=t then(-51:Int) else o3 b.block)= -51
 have hge:H.length≤b.block:=by
  rcases Nat.lt_or_ge b.block H.length with g|g
  ·have a1:=f13.own _ g;have a2:=hf _ g;omega
  ·exact g
 rw[if_pos ⟨hge,g2⟩]
section
variable {α:Type} {k:Nat→Value→ae→Option α} {Q:α→Prop} {z:Int}
theorem J.ahp (h:J K p m H)(z:Int): ∃H',bS 1 (.pointer (some ⟨p,8,none⟩)) (cv z) H=some (undef,H')∧J K p m H':=by
 obtain⟨hK,o,⟨tape,w,T,W,i,nk,na,nx,ny,rec,laid,ty,g,ho,ht,hT,hw,hi⟩,hk⟩:=h;refine⟨_,kF p 8 z H g rfl (by simp),hK,o,⟨tape,w,T,W,i,nk,na,nx,ny,z,laid,ty,aH g,ho,?_,hT,?_,hi⟩,hK _ _ _ _ hk ?_⟩
 ·exact ht.fr ((Fr.refl H o [(p:Int)]).put λ_=>by simp[ho]) (by simp)
 ·exact hw.fr ((Fr.refl H o [(p:Int)]).put λ_=>by simp[ho]) (by simp)
 ·exact(Fr.refl H o [(p:Int)]).put λ_=>by simp[ho]
theorem J.ahq (h:J K p m H)(z:Int): ∃H',bS 1 (.pointer (some ⟨p,9,none⟩)) (cv z) H=some (undef,H')∧J K p m H':=by
 obtain⟨hK,o,⟨tape,w,T,W,i,nk,na,nx,ny,rec,laid,ty,g,ho,ht,hT,hw,hi⟩,hk⟩:=h;refine⟨_,kF p 9 z H g rfl (by simp),hK,o,⟨tape,w,T,W,i,nk,na,nx,ny,rec,z,ty,aH g,ho,?_,hT,?_,hi⟩,hK _ _ _ _ hk ?_⟩
 ·exact ht.fr ((Fr.refl H o [(p:Int)]).put λ_=>by simp[ho]) (by simp)
 ·exact hw.fr ((Fr.refl H o [(p:Int)]).put λ_=>by simp[ho]) (by simp)
 ·exact(Fr.refl H o [(p:Int)]).put λ_=>by simp[ho]
theorem Ev.oP (h:J K p m H)(hk: ∀H',J K p m H'→Ev (λn=>k n undef H') Q):Ev (λn=>af (bS 1 (.pointer (some ⟨p,8,none⟩)) (cv z) H) (k n)) Q:=by
 obtain⟨H',e,hj⟩:=h.ahp z;rw[e];exact hk H' hj
theorem Ev.oQ (h:J K p m H)(hk: ∀H',J K p m H'→Ev (λn=>k n undef H') Q):Ev (λn=>af (bS 1 (.pointer (some ⟨p,9,none⟩)) (cv z) H) (k n)) Q:=by
 obtain⟨H',e,hj⟩:=h.ahq z;rw[e];exact hk H' hj
theorem Ev.nX (h:J K p m H)(hk: ∀z,Ev (λn=>k n (cv z) H) Q):Ev (λn=>af (pS (au (.pointer (some ⟨p,8,none⟩)) H) H) (k n)) Q:=by
 obtain⟨hK,o,⟨tape,w,T,W,i,nk,na,nx,ny,rec,laid,ty,g,_⟩,_⟩:=h;have:=ak p 8 H g
 simp only[List.getElem?_cons_succ,List.getElem?_cons_zero] at this;rw[this];exact hk rec
end
theorem gP (h:J K p m H)(a b c d:Int):bN (run G) 133 [pv p,cv a,cv b,cv c,cv d] H (UF K p (m-1)):=by
 refine Ev.up (t:=λn=>ach (run G n) n (pv p) (cv a) (cv b) (cv c) (cv d) H) ?_ λn=>WL ..
 simp -implicitDefEqProofs only[ach,Pe,BE,sS,Nat.reduceAdd];repeat' (first|exact Ev.ret ⟨_,rfl,_,by assumption,by omega⟩| ((with_reducible first|refine Ev.lss (λhq=>?_) (λhq=>?_)|refine Ev.gtr (λhq=>?_) (λhq=>?_)|refine Ev.leq (λhq=>?_) (λhq=>?_)|refine Ev.geq (λhq=>?_) (λhq=>?_)|refine Ev.eql (λhq=>?_) (λhq=>?_)|refine Ev.neq (λhq=>?_) (λhq=>?_)|refine Ev.off ‹_› (λhq=>?_) (λhq=>?_)|refine Ev.aG (dx _) λz=>?_ |refine Ev.aG (iA _) λz=>?_ |refine Ev.aG (cS _ _) λz=>?_ |refine Ev.aG (bX _ _ _) λz=>?_ |refine Ev.aG (iJ _ _) λz=>?_ |refine Ev.aG (df _) λz=>?_ |refine Ev.aG (dk _ _ _ _) λz=>?_ |refine Ev.num (cQ ‹_› _) λz Hz mz hj hm=>?_ |refine Ev.num (fw ‹_› _ _) λz Hz mz hj hm=>?_ |refine Ev.num (fj ‹_› _) λz Hz mz hj hm=>?_ |refine Ev.num (fZ ‹_› _) λz Hz mz hj hm=>?_ |refine Ev.num (eV ‹_› _ _) λz Hz mz hj hm=>?_ |refine Ev.num (gP ‹_› _ _ _ _) λz Hz mz hj hm=>?_ |refine Ev.bool (fx ‹_› _ _ _) λz Hz mz hj hm=>?_ |refine Ev.un (cO ‹_› _ _) λz Hz mz hj hm=>?_ |refine Ev.un (fY ‹_› _) λz Hz mz hj hm=>?_ |refine Ev.dB (dj ‹_›) λz zb Hz mz hj hm=>?_ |refine Ev.dB (gO ‹_› _) λz zb Hz mz hj hm=>?_ |refine Ev.kc (dp ‹_› _ _) λz zb Hz mz hj hm=>?_ |refine Ev.wd (cP ‹_› _ _ _ _) λw Hz hj=>?_ |refine Ev.wd (cu ‹_›) λw Hz hj=>?_ |refine Ev.wd (cL ‹_› _ _) λw Hz hj=>?_ |refine Ev.wd (bM ‹_› _ _ _) λw Hz hj=>?_ |refine Ev.oP ‹_› λHz hj=>?_ |refine Ev.oQ ‹_› λHz hj=>?_ |refine Ev.nX ‹_› λz=>?_ |refine Ev.br (λhq=>?_) (λhq=>?_))<;>try simp -implicitDefEqProofs only[sS,Nat.reduceAdd]))
theorem iK: ∀(m:Nat) {K:ae→an→Prop} {H:ae},J K p m H→∀a,bN (run G) 138 [pv p,cv a] H (UF K p (m-1)):=by
 intro m;induction m using Nat.strongRecOn with
 |ind m ih=>
 intro K H h a;have ih': ∀{m':Nat} {H':ae},J K p m' H'→m'<m→∀a,bN (run G) 138 [pv p,cv a] H' (UF K p (m'-1)):=λhj hm a=>ih _ hm hj a
 refine Ev.up (t:=λn=>acj (run G n) n (pv p) (cv a) H) ?_ λn=>WN ..
 simp -implicitDefEqProofs only[acj,sS,Nat.reduceAdd];have L0: ∀(d:Int) (x4 bn bW x9 eF dS fa aK iz:Value) (x5:Value) (m1:Nat) (H1:ae),J K p m1 H1→m1≤m-1→
   Ev (λn=>cI (iter n (Gi (run G n) n) [pv p,cv a,x4,x5,bn,cv 0,cv d,bW,x9,eF,dS,cv 0,fa,aK,iz] H1) (dr 0 (dv (Gj (run G n) n) (eE Tryz.prog [.tmp 4] [0,1,4,5,16,8,6,35,9,47,48,7,52,10,59])))) λr=>UF K p (m-1) r.1 r.2:=by
  intro d x4 bn bW x9 eF dS fa aK iz x5 m1 H1 kY Np;refine Ev.D9 (λvs=>∃(i s:Int) (x4 x5 bn bW x9 eF dS fa aK iz:Value),vs=[pv p,cv a,x4,x5,bn,cv i,cv d,bW,x9,eF,dS,cv s,fa,aK,iz])
   (λe vs=>e= .exit 0∧∃(i s:Int) (x4 x5 bn bW x9 eF dS fa aK iz:Value),vs=[pv p,cv a,x4,x5,bn,cv i,cv d,bW,x9,eF,dS,cv s,fa,aK,iz]) kY ⟨_,_,_,_,_,_,_,_,_,_,_,_,rfl⟩ ?_ ?_
  ·rintro m1 vs H1 hj hm ⟨i,s,x4,x5,bn,bW,x9,eF,dS,fa,aK,iz,rfl⟩;simp -implicitDefEqProofs only[Pk,BJ,sS,Nat.reduceAdd];repeat' (first|exact Ev.ret (.inl ⟨rfl,⟨_,by assumption,by omega⟩,_,_,_,_,_,_,_,_,_,_,_,_,rfl⟩)|exact Ev.ret (.inr ⟨by simp,⟨_,by assumption,by omega⟩,rfl,_,_,_,_,_,_,_,_,_,_,_,_,rfl⟩)| (simp -implicitDefEqProofs only[Pj,BI,sS,Nat.reduceAdd])| (refine Ev.num (ih' ‹_› (by omega) _) λz Hz mz hj hm=>?_ <;>try simp -implicitDefEqProofs only[sS,Nat.reduceAdd])| ((with_reducible first|refine Ev.lss (λhq=>?_) (λhq=>?_)|refine Ev.gtr (λhq=>?_) (λhq=>?_)|refine Ev.leq (λhq=>?_) (λhq=>?_)|refine Ev.geq (λhq=>?_) (λhq=>?_)|refine Ev.eql (λhq=>?_) (λhq=>?_)|refine Ev.neq (λhq=>?_) (λhq=>?_)|refine Ev.off ‹_› (λhq=>?_) (λhq=>?_)|refine Ev.aG (dx _) λz=>?_ |refine Ev.aG (iA _) λz=>?_ |refine Ev.aG (cS _ _) λz=>?_ |refine Ev.aG (bX _ _ _) λz=>?_ |refine Ev.aG (iJ _ _) λz=>?_ |refine Ev.aG (df _) λz=>?_ |refine Ev.aG (dk _ _ _ _) λz=>?_ |refine Ev.num (cQ ‹_› _) λz Hz mz hj hm=>?_ |refine Ev.num (fw ‹_› _ _) λz Hz mz hj hm=>?_ |refine Ev.num (fj ‹_› _) λz Hz mz hj hm=>?_ |refine Ev.num (fZ ‹_› _) λz Hz mz hj hm=>?_ |refine Ev.num (eV ‹_› _ _) λz Hz mz hj hm=>?_ |refine Ev.num (gP ‹_› _ _ _ _) λz Hz mz hj hm=>?_ |refine Ev.bool (fx ‹_› _ _ _) λz Hz mz hj hm=>?_ |refine Ev.un (cO ‹_› _ _) λz Hz mz hj hm=>?_ |refine Ev.un (fY ‹_› _) λz Hz mz hj hm=>?_ |refine Ev.dB (dj ‹_›) λz zb Hz mz hj hm=>?_ |refine Ev.dB (gO ‹_› _) λz zb Hz mz hj hm=>?_ |refine Ev.kc (dp ‹_› _ _) λz zb Hz mz hj hm=>?_ |refine Ev.num (iK _ ‹_› _) λz Hz mz hj hm=>?_ |refine Ev.wd (cP ‹_› _ _ _ _) λw Hz hj=>?_ |refine Ev.wd (cu ‹_›) λw Hz hj=>?_ |refine Ev.wd (cL ‹_› _ _) λw Hz hj=>?_ |refine Ev.wd (bM ‹_› _ _ _) λw Hz hj=>?_ |refine Ev.oP ‹_› λHz hj=>?_ |refine Ev.oQ ‹_› λHz hj=>?_ |refine Ev.nX ‹_› λz=>?_ |refine Ev.br (λhq=>?_) (λhq=>?_))<;>try simp -implicitDefEqProofs only[sS,Nat.reduceAdd]))
  ·rintro e vs m2 H2 hj hm ⟨rfl,i,s,x4,x5,bn,bW,x9,eF,dS,fa,aK,iz,rfl⟩;simp -implicitDefEqProofs only[Pl,BK,sS,Nat.reduceAdd];repeat' (first|exact Ev.ret ⟨_,rfl,_,by assumption,by omega⟩| ((with_reducible first|refine Ev.lss (λhq=>?_) (λhq=>?_)|refine Ev.gtr (λhq=>?_) (λhq=>?_)|refine Ev.leq (λhq=>?_) (λhq=>?_)|refine Ev.geq (λhq=>?_) (λhq=>?_)|refine Ev.eql (λhq=>?_) (λhq=>?_)|refine Ev.neq (λhq=>?_) (λhq=>?_)|refine Ev.off ‹_› (λhq=>?_) (λhq=>?_)|refine Ev.aG (dx _) λz=>?_ |refine Ev.aG (iA _) λz=>?_ |refine Ev.aG (cS _ _) λz=>?_ |refine Ev.aG (bX _ _ _) λz=>?_ |refine Ev.aG (iJ _ _) λz=>?_ |refine Ev.aG (df _) λz=>?_ |refine Ev.aG (dk _ _ _ _) λz=>?_ |refine Ev.num (cQ ‹_› _) λz Hz mz hj hm=>?_ |refine Ev.num (fw ‹_› _ _) λz Hz mz hj hm=>?_ |refine Ev.num (fj ‹_› _) λz Hz mz hj hm=>?_ |refine Ev.num (fZ ‹_› _) λz Hz mz hj hm=>?_ |refine Ev.num (eV ‹_› _ _) λz Hz mz hj hm=>?_ |refine Ev.num (gP ‹_› _ _ _ _) λz Hz mz hj hm=>?_ |refine Ev.bool (fx ‹_› _ _ _) λz Hz mz hj hm=>?_ |refine Ev.un (cO ‹_› _ _) λz Hz mz hj hm=>?_ |refine Ev.un (fY ‹_› _) λz Hz mz hj hm=>?_ |refine Ev.dB (dj ‹_›) λz zb Hz mz hj hm=>?_ |refine Ev.dB (gO ‹_› _) λz zb Hz mz hj hm=>?_ |refine Ev.kc (dp ‹_› _ _) λz zb Hz mz hj hm=>?_ |refine Ev.num (iK _ ‹_› _) λz Hz mz hj hm=>?_ |refine Ev.wd (cP ‹_› _ _ _ _) λw Hz hj=>?_ |refine Ev.wd (cu ‹_›) λw Hz hj=>?_ |refine Ev.wd (cL ‹_› _ _) λw Hz hj=>?_ |refine Ev.wd (bM ‹_› _ _ _) λw Hz hj=>?_ |refine Ev.oP ‹_› λHz hj=>?_ |refine Ev.oQ ‹_› λHz hj=>?_ |refine Ev.nX ‹_› λz=>?_ |refine Ev.br (λhq=>?_) (λhq=>?_))<;>try simp -implicitDefEqProofs only[sS,Nat.reduceAdd]))
 repeat' (first|exact Ev.ret ⟨_,rfl,_,by assumption,by omega⟩|exact L0 _ _ _ _ _ _ _ _ _ _ _ _ _ ‹_› (by omega)| ((with_reducible first|refine Ev.lss (λhq=>?_) (λhq=>?_)|refine Ev.gtr (λhq=>?_) (λhq=>?_)|refine Ev.leq (λhq=>?_) (λhq=>?_)|refine Ev.geq (λhq=>?_) (λhq=>?_)|refine Ev.eql (λhq=>?_) (λhq=>?_)|refine Ev.neq (λhq=>?_) (λhq=>?_)|refine Ev.off ‹_› (λhq=>?_) (λhq=>?_)|refine Ev.aG (dx _) λz=>?_ |refine Ev.aG (iA _) λz=>?_ |refine Ev.aG (cS _ _) λz=>?_ |refine Ev.aG (bX _ _ _) λz=>?_ |refine Ev.aG (iJ _ _) λz=>?_ |refine Ev.aG (df _) λz=>?_ |refine Ev.aG (dk _ _ _ _) λz=>?_ |refine Ev.num (cQ ‹_› _) λz Hz mz hj hm=>?_ |refine Ev.num (fw ‹_› _ _) λz Hz mz hj hm=>?_ |refine Ev.num (fj ‹_› _) λz Hz mz hj hm=>?_ |refine Ev.num (fZ ‹_› _) λz Hz mz hj hm=>?_ |refine Ev.num (eV ‹_› _ _) λz Hz mz hj hm=>?_ |refine Ev.num (gP ‹_› _ _ _ _) λz Hz mz hj hm=>?_ |refine Ev.bool (fx ‹_› _ _ _) λz Hz mz hj hm=>?_ |refine Ev.un (cO ‹_› _ _) λz Hz mz hj hm=>?_ |refine Ev.un (fY ‹_› _) λz Hz mz hj hm=>?_ |refine Ev.dB (dj ‹_›) λz zb Hz mz hj hm=>?_ |refine Ev.dB (gO ‹_› _) λz zb Hz mz hj hm=>?_ |refine Ev.kc (dp ‹_› _ _) λz zb Hz mz hj hm=>?_ |refine Ev.num (iK _ ‹_› _) λz Hz mz hj hm=>?_ |refine Ev.wd (cP ‹_› _ _ _ _) λw Hz hj=>?_ |refine Ev.wd (cu ‹_›) λw Hz hj=>?_ |refine Ev.wd (cL ‹_› _ _) λw Hz hj=>?_ |refine Ev.wd (bM ‹_› _ _ _) λw Hz hj=>?_ |refine Ev.oP ‹_› λHz hj=>?_ |refine Ev.oQ ‹_› λHz hj=>?_ |refine Ev.nX ‹_› λz=>?_ |refine Ev.br (λhq=>?_) (λhq=>?_))<;>try simp -implicitDefEqProofs only[sS,Nat.reduceAdd]))
 trace_state
end
end Go.Proofs.YtjgmnoaalbbonaaGreat.Fun
end
