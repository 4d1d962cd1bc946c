/- Texts of the proof of helpLogic_holds, put together by a small program of ours (names shortened, spaces taken out). No condition beyond the given statement. -/
import Derived.Test.YtgfgglponbmgmaaGreatHLG12
import Derived.Test.YtgfgglponbmgmaaGreatHLG11
import Derived.Test.YtgfgglponbmgmaaGreatHLG15
import Derived.Test.YtgfgglponbmgmaaGreatHLG17
import Derived.Test.YtgfgglponbmgmaaGreatHLG27
import Derived.Test.YtgfgglponbmgmaaGreatHLG14
set_option linter.unusedVariables false
set_option linter.unusedSimpArgs false
set_option linter.unnecessarySimpa false
noncomputable section
section
namespace Go.Proofs.YtgfgglponbmgmaaGreat.Fun
open Go Go.RowKit Go.Proofs.YtgfgglponbmgmaaGreatA.Am
set_option maxRecDepth 10000
section
open Go.Proofs.YtgfgglponbmgmaaGreatA
variable {G:ae} {H H':aa} {o o':aj} {p c n i:Nat} {K K':aa→aj→Prop} {t q:Int} {x:Value} {path:List Y.En} {st LV s1:Y.St} {α β:Type} {cs:List Value} {T:TypeId}
abbrev yU (r:Y.Rs):eI:=⟨r.D5,r.found,r.key,r.value,0,[]⟩
abbrev jx (K:aa→aj→Prop)(p:Nat)(st:Y.St)(t:Y.Tr (Y.Rs×Bool)):Value→aa→Prop:=λv H'=>v= .tuple #[gj (yU (Y.ah t st).1.1) aA,.bool (Y.ah t st).1.2]∧JX K p (Y.ah t st).2 H'
theorem jx.of {t:Y.Tr (Y.Rs×Bool)}{z:Y.Rs}{b:Bool}(hj:JX K p s1 H')(e:Y.ah t st=((z,b),s1)):jx K p st t (.tuple #[gj (yU z) aA,.bool b]) H':=by unfold jx;rw[e];exact⟨rfl,hj⟩
section
variable {B:aa} {b:aj} {i0 i1 i2:Nat} {op:jY} {c1:List Value} {r2:eI}
theorem KL.OG (h:JX (KL B b p i0 i1 i2 op c1 r2) p st H):aq (.pointer (some ⟨i0,0,none⟩)) H=some (cv op.kind)∧aq (.pointer (some ⟨i0,1,none⟩)) H=some (cv op.key)∧cZ 3 (pv i0) H=some (jj op)∧aq (.pointer (some ⟨i2,1,none⟩)) H=some (.bool r2.found)∧cZ 6 (pv i2) H=some (gj r2 aA):=by
 obtain⟨_,o,_,hg⟩:=h;exact⟨ao i0 0 _ hg.k0.1,ao i0 1 _ hg.k0.1,PO hg.k0.1,ao i2 1 _ hg.k2.1,pQ _ _ _ hg.k2.1⟩
theorem KL.Xj (hd:KLd B i0 i1 i2)(h:JX (KL B b p i0 i1 i2 op c1 r2) p st H)(hl:c1.length=6)(r:eI): ∃H2,bD 6 (pv i1) (gj r aA) H=some (undef,H2)∧cZ 6 (pv i1) H2=some (gj r aA)∧JX (KL B b p i0 i1 i2 op (rc r) r2) p st H2:=by
 obtain⟨_,o,hr,hg⟩:=id h;obtain⟨e0,e1,e2⟩:=hd;refine⟨_,tD i1 r (s:=aA) rfl H hg.k1.1 hl,pQ _ _ _ (aG hg.k1.1),h.tH (λo hg=>hg.k1) KL.eU λo hg=>⟨hg.fr.put λhh=>by omega,hg.k0.put (by omega),hg.k1.self,hg.k2.put (by omega)⟩⟩
theorem KL.TM (hd:KLd B i0 i1 i2)(h:JX (KL B b p i0 i1 i2 op c1 r2) p st H)(r:eI): ∃H2,bD 6 (pv i2) (gj r aA) H=some (undef,H2)∧JX (KL B b p i0 i1 i2 op c1 r) p st H2:=by
 obtain⟨_,o,hr,hg⟩:=id h;obtain⟨e0,e1,e2⟩:=hd;refine⟨_,tD i2 r (s:=aA) rfl H hg.k2.1 rfl,h.tH (λo hg=>hg.k2) KL.eU λo hg=>⟨hg.fr.put λhh=>by omega,hg.k0.put (by omega),hg.k1.put (by omega),hg.k2.self⟩⟩
end
theorem aak (h:JX K p st H){ff:Nat}(Xi:st.left≤ff)(hx: ∀H o,K H o→EH H o q x path)(hq:q≠(p:Int))(hp: ∀e∈path, -9223372036854775808≤e.node∧e.node≤65536)(hn:path.length≤2147483648)(op:jY){nn:Int}(hnn: -9223372036854775808≤nn∧nn≤65536)(s w:Int):
  aE (run G) 167 [pv p,jj op,cv nn,cv s,cv w,x] H (jx K p st (Y.lD (ff+1) (n9 op) nn s w path)):=by
 have wnn:IntKind.i64.wrap (nn+2)=nn+2:=fL (by omega)
 refine Ev.up (t:=λk=>Vh (run G k) k (pv p) (jj op) (cv nn) (cv s) (cv w) x H) ?_ λk=>QA ..
 obtain⟨hK,b,hr,hk⟩:=id h;have hxB:=hx _ _ hk;have YL: ∀{H':aa} {o':aj},Fr H b H' o' [(p:Int)]→EH H' o' q x path:=λf=>hxB.fr f (by simpa using hq)
 obtain⟨i0,e0⟩: ∃i,i=H.length:=⟨_,rfl⟩;obtain⟨i1,e1⟩: ∃i,i=H.length+1:=⟨_,rfl⟩;obtain⟨i2,e2⟩: ∃i,i=H.length+2:=⟨_,rfl⟩;have hd:KLd H i0 i1 i2:=⟨e0,e1,e2⟩;obtain⟨H1,fV⟩: ∃z,z=H.new ⟨n5 op,39,1,false⟩:=⟨_,rfl⟩;have l1:H1.length=H.length+1:=by rw[fV,cA]
 obtain⟨H2,im⟩: ∃z,z=H1.new ⟨rc bQ,47,1,false⟩:=⟨_,rfl⟩;have l2:H2.length=H.length+2:=by rw[im,cA,l1]
 obtain⟨H3,mo⟩: ∃z,z=H2.new ⟨rc bQ,47,1,false⟩:=⟨_,rfl⟩;have fv:JX (λH' o=>Fr H b H' o [(p:Int)]∧Cl i0 (n5 op) 39 H' o) p st H1:=by
  rw[fV];have OH:JX (λH' o=>Fr H b H' o [(p:Int)]) p st H:=⟨bJ.base (by simp),b,hr,Fr.refl _ _ _⟩
  refine OH.nB _ _ 1 ((bJ.base (by simp)).and λH o H' o' a f=>a.fr f (by simp)) λo hk f=>⟨hk.new _ _,?_⟩
  rw[e0];exact Cl.made
 have fH:JX (λH' o=>(Fr H b H' o [(p:Int)]∧Cl i0 (n5 op) 39 H' o)∧Cl i1 (rc bQ) 47 H' o) p st H2:=by
  rw[im];refine fv.nB _ _ 1 (fv.1.and λH o H' o' a f=>a.fr f (by simp)) λo hk f=>⟨⟨hk.1.new _ _,hk.2.new⟩,?_⟩
  rw[e1, ←l1];exact Cl.made
 have gA:JX (KL H b p i0 i1 i2 op (rc bQ) bQ) p st H3:=by
  rw[mo];refine fH.nB _ _ 1 KL.eU λo hk f=>⟨hk.1.1.new _ _,hk.1.2.new,hk.2.new,?_⟩
  rw[e2, ←l2];exact Cl.made
 obtain⟨H4,g4,iW⟩:=KL.TM hd gA bQ;have bx:=CH op H;rw[←e0, ←fV] at bx;have n1:aS H1 47 1 [cv 0,.bool false,cv 0,cv 0,cv 0,aA]=(pv i1,H2):=by rw[im,e1, ←l1];rfl
 have n2:aS H2 47 1 [cv 0,.bool false,cv 0,cv 0,cv 0,aA]=(pv i2,H3):=by rw[mo,e2, ←l2];rfl
 have hU: ∀{c1:List Value} {r2:eI} {s':Y.St} {H':aa},JX (KL H b p i0 i1 i2 op c1 r2) p s' H'→JX K p s' H':=λhj=>hj.mono hK λo' hg=>hK _ _ _ _ hk hg.fr
 have J2: ∀{s2:Y.St} {H1:aa} {res:Y.Rs} (leaf:Bool) (q z19:Int) (aI bO bR iS aU kS bf wV nd oI:Value),JX (KL H b p i0 i1 i2 op (rc bQ) (yU res)) p s2 H1→Y.ah (Y.lD (ff+1) (n9 op) nn s w path) st=((res,decide (z19=1)),s2)→Ev (λk=>po (run G k) k [pv p,jj op,cv nn,cv s,cv w,x,pv i1,aI,.bool leaf,bO,cv q,pv i0,bR,pv i2,iS,aU,kS,bf,wV,cv z19,nd,oI] H1) λr=>jx K p st (Y.lD (ff+1) (n9 op) nn s w path) r.1 r.2:=by
  intro s2 H1 res leaf q z19 aI bO bR iS aU kS bf wV nd oI hj E;obtain⟨a0,a1,a2,a3,a4⟩:=KL.OG hj;obtain⟨H5,g5,g6,kh⟩:=KL.Xj hd hj rfl (yU res);simp -implicitDefEqProofs only[JF,xb,a4,sS,Nat.reduceAdd];refine Ev.eql (λhq=>?_) (λhq=>?_)<;>try simp -implicitDefEqProofs only[g5,g6,sS,Nat.reduceAdd]
  ·exact Ev.ret (jx.of (hU kh) (by rw[E];simp[hq]))
  ·exact Ev.ret (jx.of (hU kh) (by rw[E];simp[hq]))
 have Yk: ∀{s2:Y.St} {H1:aa} {r2:eI},JX (KL H b p i0 i1 i2 op (rc bQ) r2) p s2 H1→Y.ah (Y.lD (ff+1) (n9 op) nn s w path) st=((Y.Rs.qg,true),s2)→Ev (λk=>af (run G k 166 [] H1) λy Hy=>af (bD 6 (pv i1) y Hy) λ_ Hy=>af (pS (cZ 6 (pv i1) Hy) Hy) λr0 _=>some (Value.tuple #[r0,.bool true],Hy)) λr=>jx K p st (Y.lD (ff+1) (n9 op) nn s w path) r.1 r.2:=by
  intro s2 H1 r2 hj E;refine Ev.call (It hj) ?_;rintro v H5 ⟨rfl,hj⟩;obtain⟨H6,g5,g6,kh⟩:=KL.Xj hd hj rfl (lE 8);simp -implicitDefEqProofs only[g5,g6,sS,Nat.reduceAdd];exact Ev.ret (jx.of (z:=Y.Rs.qg) (hU kh) E)
 have J1: ∀{s2:Y.St} {H1:aa} {res:Y.Rs} (leaf:Bool) (q o:Int) (aI bO bR iS aU kS bf wV nd oI:Value),JX (KL H b p i0 i1 i2 op (rc bQ) (yU res)) p s2 H1→s2.left≤ff→Y.ah (Y.lD (ff+1) (n9 op) nn s w path) st=Y.ah (if o=3 then pure (Y.Rs.qg,true) else if o=1∧((n9 op).kind≠2∨res.found=false) then Y.di (ff+1) none path >>= λ_=>pure (res,true) else pure (res,decide (o=1))) s2→Ev (λk=>adP (run G k) k [pv p,jj op,cv nn,cv s,cv w,x,pv i1,aI,.bool leaf,bO,cv q,pv i0,bR,pv i2,iS,aU,kS,bf,wV,cv o,nd,oI] H1) λr=>jx K p st (Y.lD (ff+1) (n9 op) nn s w path) r.1 r.2:=by
  intro s2 H1 res leaf q o aI bO bR iS aU kS bf wV nd oI hj hl E;obtain⟨a0,a1,a2,a3,a4⟩:=KL.OG hj;simp -implicitDefEqProofs only[JG,xd,sS,Nat.reduceAdd];have Xk:o=1→Y.ah (Y.lD (ff+1) (n9 op) nn s w path) st=Y.ah (Y.di (ff+1) none path >>= λ_=>pure (res,true)) s2→∀(nd oI:Value),Ev (λk=>af (run G k 126 [pv p,x] H1) λ_ Hy=>po (run G k) k [pv p,jj op,cv nn,cv s,cv w,x,pv i1,aI,.bool leaf,bO,cv q,pv i0,bR,pv i2,iS,aU,kS,bf,wV,cv o,nd,oI] Hy) λr=>jx K p st (Y.lD (ff+1) (n9 op) nn s w path) r.1 r.2:=by
   intro ho E nd oI;refine Ev.Yu (R2 hj (ff:=ff) hl (λH o hg=>YL hg.fr) hp hn) λv u s3 H3 e3 gA=>?_
   rw[Y.aJ e3] at E;refine J2 _ _ _ _ _ _ _ _ _ _ _ _ _ gA ?_;rw[E];simp[ho,bH]
  refine Ev.eql (λh3=>?_) (λh3=>?_)<;>try simp -implicitDefEqProofs only[sS,Nat.reduceAdd]
  ·exact Yk hj (by rw[E,if_pos h3];rfl)
  rw[if_neg h3] at E;refine Ev.eql (λh1=>?_) (λh1=>?_)<;>try simp -implicitDefEqProofs only[a0,sS,Nat.reduceAdd]
  ·refine Ev.neq (λhk=>?_) (λhk=>?_)<;>try simp -implicitDefEqProofs only[a3,sS,Nat.reduceAdd]
   ·rw[if_pos ⟨h1,.inl hk⟩] at E;exact Xk h1 E _ _
   ·cases hf:res.found<;>simp -implicitDefEqProofs only[sS,Nat.reduceAdd]
    ·rw[if_pos ⟨h1,.inr hf⟩] at E;exact Xk h1 E _ _
    ·rw[if_neg (by simp[hk,hf])] at E
     exact J2 _ _ _ _ _ _ _ _ _ _ _ _ _ hj (by rw[E];rfl)
  ·rw[if_neg (by simp[h1])] at E
   exact J2 _ _ _ _ _ _ _ _ _ _ _ _ _ hj (by rw[E];rfl)
 have J0: ∀{s2:Y.St} {H1:aa} {res:Y.Rs} (leaf:Bool) (q:Int) (aI bO bR iS aU kS bf wV bz nd oI:Value),JX (KL H b p i0 i1 i2 op (rc bQ) (yU res)) p s2 H1→s2.left≤ff→Y.ah (Y.lD (ff+1) (n9 op) nn s w path) st=Y.ah (Y.yJ (ff+1) (n9 op) nn s w q leaf path res) s2→Ev (λk=>pw (run G k) k [pv p,jj op,cv nn,cv s,cv w,x,pv i1,aI,.bool leaf,bO,cv q,pv i0,bR,pv i2,iS,aU,kS,bf,wV,bz,nd,oI] H1) λr=>jx K p st (Y.lD (ff+1) (n9 op) nn s w path) r.1 r.2:=by
  intro s2 H1 res leaf q aI bO bR iS aU kS bf wV bz nd oI hj hl E;obtain⟨a0,a1,a2,a3,a4⟩:=KL.OG hj;obtain⟨H5,g5,g6,kh⟩:=KL.Xj hd hj rfl (yU res);have E2:Y.ah (Y.lD (ff+1) (n9 op) nn s w path) st=Y.ah (if s2.off=true∨(op.kind=1∧res.found=true)∨(op.kind=3∧res.found=false) then pure (res,true) else Y.mf (n9 op) w q leaf res.found >>= λxo=>if xo.2=false then pure (Y.Rs.qg,true) else Y.Tr.rc 0 (Y.sg (nn+2) s w xo.1 >>= λo=>Y.Tr.ld (if o=3 then pure (Y.Rs.qg,true) else if o=1∧((n9 op).kind≠2∨res.found=false) then Y.di (ff+1) none path >>= λ_=>pure (res,true) else pure (res,decide (o=1))))) s2:=by
   rw[E];unfold Y.yJ;simp only[Y.ak,bk,bH,bL,cR,cS,ne_eq,not_true_eq_false,not_false_eq_true,if_true,if_false,Bool.not_true,Bool.not_false,true_and,and_true,false_and,and_false,true_or,or_true,false_or,or_false,Bool.false_eq_true,decide_true,decide_false];rfl
  have uB:(s2.off=true∨(op.kind=1∧res.found=true)∨(op.kind=3∧res.found=false))→Ev (λk=>af (some (gj (yU res) aA,H1)) λy Hy=>af (bD 6 (pv i1) y Hy) λ_ Hy=>af (pS (cZ 6 (pv i1) Hy) Hy) λr0 _=>some (Value.tuple #[r0,.bool true],Hy)) λr=>jx K p st (Y.lD (ff+1) (n9 op) nn s w path) r.1 r.2:=by
   intro hc;simp -implicitDefEqProofs only[g5,g6,sS,Nat.reduceAdd];exact Ev.ret (jx.of (hU kh) (by rw[E2,if_pos hc];rfl))
  simp -implicitDefEqProofs only[g5,g6,sS,Nat.reduceAdd] at uB;have OI: ¬(s2.off=true∨(op.kind=1∧res.found=true)∨(op.kind=3∧res.found=false))→∀(iS:Value),Ev (λk=>af (run G k 169 [pv p,jj op,cv w,cv q,.bool leaf,.bool res.found] H1) λy Hy=>af (cg 0 y Hy) λdp Hy=>af (cg 1 y Hy) λdv Hy=>af (pS (iG .not dv) Hy) λdQ Hy=>aV dQ (af (run G k 166 [] Hy) λy Hy=>af (bD 6 (pv i1) y Hy) λ_ Hy=>af (pS (cZ 6 (pv i1) Hy) Hy) λr0 _=>some (Value.tuple #[r0,.bool true],Hy))
    (af (bD 1 (.pointer (some ⟨p,8,none⟩)) (cv 0) Hy) λ_ Hy=>af (run G k 116 [pv p,cv (IntKind.i64.wrap (nn+2)),cv s,cv w,dp] Hy) λiV Hy=>af (pS (aq (.pointer (some ⟨p,8,none⟩)) Hy) Hy) λFB Hy=>af (pS (ai Tryz.prog .gtr 3 FB (cv 0)) Hy) λBN Hy=>aV BN (af (pS (aq (.pointer (some ⟨p,8,none⟩)) Hy) Hy) λBV Hy=>af (bD 1 (.pointer (some ⟨p,9,none⟩)) BV Hy) λ_ Hy=>adP (run G k) k [pv p,jj op,cv nn,cv s,cv w,x,pv i1,aI,.bool leaf,bO,cv q,pv i0,bR,pv i2,iS,dv,dQ,dp,BN,iV,nd,oI] Hy)
     (adP (run G k) k [pv p,jj op,cv nn,cv s,cv w,x,pv i1,aI,.bool leaf,bO,cv q,pv i0,bR,pv i2,iS,dv,dQ,dp,BN,iV,nd,oI] Hy))) λr=>jx K p st (Y.lD (ff+1) (n9 op) nn s w path) r.1 r.2:=by
   intro hc iS;rw[if_neg hc] at E2;refine Ev.D7 (R4 hj _ _ _ _ _) λz zb s3 H3 e3 hj=>?_
   have m3:=dk e3;rw[Y.aJ e3] at E2;cases zb<;>simp -implicitDefEqProofs only[sS,Nat.reduceAdd]
   ·exact Yk hj (by rw[E2];rfl)
   rw[if_neg (by simp),cR] at E2
   refine Ev.Tu hj λH4 hj=>?_
   rw[wnn];refine Ev.eS (Cy hj _ _ _ _) λo s5 H5 e5 hj=>?_
   have m5:=dk e5;have m6:({s3 with oL:=0}:Y.St).left=s3.left:=rfl
   rw[Y.aJ e5,cS] at E2;refine Ev.Tv hj ?_;refine Ev.gtr (λhq=>?_) (λhq=>?_)<;>try simp -implicitDefEqProofs only[sS,Nat.reduceAdd]
   ·rw[if_pos hq] at E2;refine Ev.Tv hj ?_;refine Ev.ZQ hj λH6 hj=>?_
    exact J1 _ _ _ _ _ _ _ _ _ _ _ _ _ hj (by show s5.left≤ff;omega) E2
   ·rw[if_neg hq] at E2;exact J1 _ _ _ _ _ _ _ _ _ _ _ _ _ hj (by omega) E2
  simp -implicitDefEqProofs only[JH,xe,sS,Nat.reduceAdd];refine Ev.nW hj (λhq=>?_) (λhq=>?_)<;>try simp -implicitDefEqProofs only[a0,sS,Nat.reduceAdd]
  ·(try simp -implicitDefEqProofs only[a4,g5,g6,sS,Nat.reduceAdd]);exact uB (.inl hq)
  refine Ev.eql (λqv=>?_) (λqv=>?_)<;>try simp -implicitDefEqProofs only[a0,a3,sS,Nat.reduceAdd]
  ·cases hf:res.found<;>simp -implicitDefEqProofs only[a0,sS,Nat.reduceAdd]
   ·refine Ev.eql (λkt=>?_) (λkt=>?_)<;>try simp -implicitDefEqProofs only[a0,a2,a3,a4,hf,g5,g6,sS,Nat.reduceAdd]
    ·exact uB (.inr (.inr ⟨kt,hf⟩))
    ·have:=OI (by simp[hq,qv,hf,kt])
     rw[hf] at this;exact this _
   ·(try simp -implicitDefEqProofs only[a4,g5,g6,sS,Nat.reduceAdd]);exact uB (.inr (.inl ⟨qv,hf⟩))
  ·refine Ev.eql (λkt=>?_) (λkt=>?_)<;>try simp -implicitDefEqProofs only[a0,a2,a3,a4,sS,Nat.reduceAdd]
   ·cases hf:res.found<;>simp -implicitDefEqProofs only[a2,a3,a4,hf,g5,g6,sS,Nat.reduceAdd]
    ·exact uB (.inr (.inr ⟨kt,hf⟩))
    ·have:=OI (by simp[hq,qv,hf])
     rw[hf] at this;exact this _
   ·exact OI (by simp[hq,qv,kt]) _
 have a0:=KL.OG iW;simp -implicitDefEqProofs only[Vh,bx,n1,CI,n2,g4,sS,Nat.reduceAdd];refine Ev.is (gV _) ?_
 try simp -implicitDefEqProofs only[sS,Nat.reduceAdd]
 refine Ev.eql (λqv=>?_) (λqv=>?_)<;>try simp -implicitDefEqProofs only[sS,Nat.reduceAdd]
 ·refine Ev.is (nX _) ?_;refine Ev.eS (cX iW _) λzq s2 Hz e2 hj=>?_
  have m2:=dk e2;obtain⟨a0,a1,a2,a3,a4⟩:=KL.OG hj;simp -implicitDefEqProofs only[a1,sS,Nat.reduceAdd];refine Ev.eql (λkt=>?_) (λkt=>?_)<;>try simp -implicitDefEqProofs only[sS,Nat.reduceAdd]
  ·refine Ev.is (nX _) ?_;simp -implicitDefEqProofs only[sS,Nat.reduceAdd,LW _ (j:=1) (by omega)]
   refine Ev.eS (cX hj _) λzv s3 Hz e3 hj=>?_
   have m3:=dk e3;obtain⟨H6,g6,n8⟩:=KL.TM hd hj (Li (zq,zv,true));simp -implicitDefEqProofs only[acy,Xh,g6,sS,Nat.reduceAdd];refine J0 (res:=⟨0,true,zq,zv⟩) _ _ _ _ _ _ _ _ _ _ _ _ _ n8 (by omega) ?_
   unfold Y.lD;rw[if_pos qv,Y.aJ e2,if_pos kt,Y.aJ e3]
  ·refine J0 (res:=Y.Rs.nil) _ _ _ _ _ _ _ _ _ _ _ _ _ hj (by omega) ?_
   unfold Y.lD;rw[if_pos qv,Y.aJ e2,if_neg kt]
 ·refine J0 (res:=Y.Rs.nil) _ _ _ _ _ _ _ _ _ _ _ _ _ iW Xi ?_;unfold Y.lD;rw[if_neg qv]
end
section
variable {G:ae} {H H':aa} {o o':aj} {p m c:Nat} {K K':aa→aj→Prop} {t q:Int} {x:Value} {l:PL} {n i:Nat} {cs:List Value} {T:TypeId}
structure Xl (B:aa) (b:aj) (p i0 i1:Nat) (t:Int):Prop where
 e0:i0=B.length
 e1:i1=B.length+1
 lt:t< -100
 ft: ∀i,i<B.length→b i≠t
section
variable {B:aa} {b:aj} {i0 i1:Nat} {op:jY} {c1:List Value}
theorem Xl.ap (h:Xl B b p i0 i1 t):oS t p:=⟨by have:=h.lt;omega,by have:=h.lt;omega,by have:=h.lt;omega⟩
variable {α:Type} {k:Nat→Value→aa→Option α} {Q:α→Prop} {a1 a2 a3:Int} {ty:TypeId}
end
theorem acz (a b c:Int):aF Tryz.prog 37 [(0,cv a),(1,cv b),(2,cv c)]=some (.agg #[cv a,cv b,cv c]):=by kernel_rfl
theorem acA (a b c:Int)(H:aa):ay Tryz.prog 35 1 [(0,.agg #[cv a,cv b,cv c])] H=some (.slice (some ⟨H.length,0,none⟩) 1 1,H.new ⟨[cv a,cv b,cv c],37,3,false⟩):=by kernel_rfl
theorem Xm (i:Nat)(H:aa):iY Tryz.prog 47 (pv i) H=cZ 6 (pv i) H:=by kernel_rfl
end
section
open Go.Proofs.YtgfgglponbmgmaaGreatA
variable {G:ae} {H H':aa} {o o':aj} {p c n i:Nat} {K K':aa→aj→Prop} {t q:Int} {x:Value} {path:List Y.En} {st LV s1:Y.St} {α β:Type} {cs:List Value} {T:TypeId}
structure KB (B:aa) (b:aj) (p i0 i1:Nat) (t:Int) (op:jY) (c1:List Value) (x:Value) (path:List Y.En) (H:aa) (o:aj):Prop where
 fr:Fr B b H o [(p:Int)]
 k0:Cl i0 (n5 op) 39 H o
 k1:Cl i1 c1 47 H o
 en:EH H o t x path
section
variable {B:aa} {b:aj} {i0 i1:Nat} {op:jY} {c1:List Value}
theorem KB.eU (hd:Xl B b p i0 i1 t):bJ [(p:Int)] (KB B b p i0 i1 t op c1 x path):=λH o H' o' h f=>⟨h.fr.tr f,h.k0.fr f (by simp),h.k1.fr f (by simp),h.en.fr f (by have:=hd.lt;simp;omega)⟩
theorem KB.oa (h:JX (KB B b p i0 i1 t op c1 x path) p st H):aq (.pointer (some ⟨i0,1,none⟩)) H=some (cv op.key)∧cZ 3 (pv i0) H=some (jj op):=by
 obtain⟨_,o,_,hg⟩:=h;exact⟨ao i0 1 _ hg.k0.1,PO hg.k0.1⟩
theorem KB.fin (hd:Xl B b p i0 i1 t)(h:JX (KB B b p i0 i1 t op c1 x path) p st H)(hl:c1.length=6)(r:eI): ∃H2,bD 6 (pv i1) (gj r aA) H=some (undef,H2)∧cZ 6 (pv i1) H2=some (gj r aA)∧JX (KB B b p i0 i1 t op (rc r) x path) p st H2:=by
 obtain⟨_,o,hr,hg⟩:=id h;obtain⟨e0,e1,e2,e3⟩:=id hd;refine⟨_,tD i1 r (s:=aA) rfl H hg.k1.1 hl,pQ _ _ _ (aG hg.k1.1),h.tH (λo hg=>hg.k1) (KB.eU hd) λo hg=>⟨hg.fr.put λhh=>by omega,hg.k0.put (by omega),hg.k1.self,hg.en.fr ((Fr.refl H o [-9]).put λ_=>by simp[hg.k1.2]) (by simp;omega)⟩⟩
variable {k:Nat→Value→aa→Option α} {Q:α→Prop} {a1 a2 a3:Int} {ty:TypeId}
theorem Ev.aal (hd:Xl B b p i0 i1 t)(h:JX (KB B b p i0 i1 t op c1 x path) p st H)(hb:path.length+1≤4294967296)(hk: ∀x' H',JX (KB B b p i0 i1 t op c1 x' (path++[⟨a1,a2,a3⟩])) p st H'→Ev (λn=>k n x' H') Q):
  Ev (λn=>af (de T 3 24 x (.slice (some ⟨H.length,0,none⟩) 1 1) (H.new ⟨[cv a1,cv a2,cv a3],ty,3,false⟩)) (k n)) Q:=by
 obtain⟨_,o,hr,hg⟩:=h;obtain⟨x',H2,o2,e,s2,f2⟩:=EH.app T ty hg.en ⟨a1,a2,a3⟩ hb;rw[e];have ha:=hd.ap;have gB:=hd.lt;refine hk x' H2 ⟨KB.eU hd,o2,hr.fr f2 ?_ ?_ ?_,iD (hg.fr.trans f2 (rs:=[t,(p:Int)]) (by simp) (by simp)) hd.ft,hg.k0.fr f2 ?_,hg.k1.fr f2 ?_,s2⟩
 ·simp;omega
 ·simp;omega
 ·simp;omega
 ·simp;omega
 ·simp;omega
end
theorem CL {g f:Nat}{op:Y.Op}{n:Int}{path:List Y.En}{s:Y.St}(h:s.off=true):Y.ah (Y.dP g op f n path) s=((Y.Rs.nil,true),s):=by
 cases f with
 |zero=>rfl
 |succ f=>unfold Y.dP;simp only[Y.ak,bk,bH,bL,cR,cS,ne_eq,not_true_eq_false,not_false_eq_true,if_true,if_false,Bool.not_true,Bool.not_false,true_and,and_true,false_and,and_false,true_or,or_true,false_or,or_false,Bool.false_eq_true,decide_true,decide_false,h]
theorem uf {g f:Nat}{op:Y.Op}{n:Int}{path:List Y.En}{s:Y.St}(h:s.off=false):Y.ah (Y.dP g op (f+1) n path) s=Y.ah (Y.nt g n op.key >>= λs=>Y.kr g s >>= λw=>if Y.kd w=4 then Y.gU g (Y.aw w) >>= λok=>(if ok=false then pure (Y.Rs.qg,true) else pure (Y.Rs.nil,false)) else if Y.kd w=3 then Y.dP g op f (Y.aw w) (path++[⟨n,s,w⟩]) else Y.lD g op n s w path) s:=by
 conv=>lhs;unfold Y.dP
 simp only[Y.ak,bk,bH,bL,cR,cS,ne_eq,not_true_eq_false,not_false_eq_true,if_true,if_false,Bool.not_true,Bool.not_false,true_and,and_true,false_and,and_false,true_or,or_true,false_or,or_false,Bool.false_eq_true,decide_true,decide_false,h]
theorem Ln (h:JX K p st H){ff:Nat}(Xi:st.left≤ff)(op:jY):aE (run G) 156 [pv p,jj op] H (jx K p st (Y.dP (ff+1) (n9 op) (ff+1) 1 [])):=by
 refine Ev.up (t:=λk=>Wh (run G k) k (pv p) (jj op) H) ?_ λk=>Q7 ..
 have Yv:=h.left;obtain⟨hK,b,hr,hk⟩:=id h;obtain⟨i0,e0⟩: ∃i,i=H.length:=⟨_,rfl⟩;obtain⟨i1,e1⟩: ∃i,i=H.length+1:=⟨_,rfl⟩;obtain⟨t,PN,Cw⟩:=gC b H.length;have hd:Xl H b p i0 i1 t:=⟨e0,e1,PN,λi hi=>by have:=Cw i hi;omega⟩
 obtain⟨H1,fV⟩: ∃z,z=H.new ⟨n5 op,39,1,false⟩:=⟨_,rfl⟩;have l1:H1.length=H.length+1:=by rw[fV,cA]
 obtain⟨H2,im⟩: ∃z,z=H1.new ⟨rc bQ,47,1,false⟩:=⟨_,rfl⟩;have fv:JX (λH' o=>Fr H b H' o [(p:Int)]∧Cl i0 (n5 op) 39 H' o) p st H1:=by
  rw[fV];have OH:JX (λH' o=>Fr H b H' o [(p:Int)]) p st H:=⟨bJ.base (by simp),b,hr,Fr.refl _ _ _⟩
  refine OH.nB _ _ 1 ((bJ.base (by simp)).and λH o H' o' a f=>a.fr f (by simp)) λo hk f=>⟨hk.new _ _,?_⟩
  rw[e0];exact Cl.made
 have fH:JX (KB H b p i0 i1 t op (rc bQ) aA []) p st H2:=by
  rw[im];refine fv.nB _ _ 1 (KB.eU hd) λo hk f=>⟨hk.1.new _ _,hk.2.new,?_,.inl ⟨rfl,rfl⟩⟩
  rw[e1, ←l1];exact Cl.made
 have bx:=CH op H;rw[←e0, ←fV] at bx;have n1:aS H1 47 1 [cv 0,.bool false,cv 0,cv 0,cv 0,aA]=(pv i1,H2):=by rw[im,e1, ←l1];rfl
 have hU: ∀{c1:List Value} {x:Value} {path:List Y.En} {s':Y.St} {H':aa},JX (KB H b p i0 i1 t op c1 x path) p s' H'→JX K p s' H':=λhj=>hj.mono hK λo' hg=>hK _ _ _ _ hk hg.fr
 simp -implicitDefEqProofs only[Wh,bx,n1,sS,Nat.reduceAdd];refine Ev.loop (k:=st.left) (λk vs Hx=>∃(x:Value) (path:List Y.En) (nn:Int) (sx:Y.St) (fx:Nat) (x5 aM x8 x9 bO dC cw dE:Value),JX (KB H b p i0 i1 t op (rc bQ) x path) p sx Hx∧k=sx.left∧sx.left≤ff∧(sx.left+1≤fx∨sx.off=true)∧(-9223372036854775808≤nn∧nn≤65536)∧(∀e∈path, -9223372036854775808≤e.node∧e.node≤65536)∧path.length+sx.left≤1048577∧Y.ah (Y.dP (ff+1) (n9 op) (ff+1) 1 []) st=Y.ah (Y.dP (ff+1) (n9 op) fx nn path) sx∧vs=[pv p,jj op,pv i1,x5,aM,cv nn,pv i0,x8,x9,bO,dC,cw,dE,x])
  (λr=>∃(c1:List Value) (x:Value) (path:List Y.En) (sx:Y.St) (x5 aM x6 x8 x9 bO dC cw dE:Value),JX (KB H b p i0 i1 t op c1 x path) p sx r.2.2∧c1.length=6∧r.2.1=[pv p,jj op,pv i1,x5,aM,x6,pv i0,x8,x9,bO,dC,cw,dE,x]∧((r.1= .exit 0∧Y.ah (Y.dP (ff+1) (n9 op) (ff+1) 1 []) st=((Y.Rs.nil,true),sx))∨(r.1= .ret∧∃rr bb,x5= .bool bb∧c1=rc (yU rr)∧Y.ah (Y.dP (ff+1) (n9 op) (ff+1) 1 []) st=((rr,bb),sx))))
  ⟨aA,[],1,st,ff+1,_,_,_,_,_,_,_,_,fH,rfl,Xi,.inl (by omega),by omega,(λe he=>by cases he),by simpa using Yv,rfl,rfl⟩ ?_ ?_
 ·rintro k vs Hx ⟨x,path,nn,sx,fx,x5,aM,x8,x9,bO,dC,cw,dE,hj,rfl,hl,pd,hnn,hp,Yh,E,rfl⟩;obtain⟨a0,a1⟩:=KB.oa hj;simp -implicitDefEqProofs only[Kn,xT,sS,Nat.reduceAdd];refine Ev.nW hj (λhq=>?_) (λhq=>?_)<;>try simp -implicitDefEqProofs only[a0,sS,Nat.reduceAdd]
  ·rw[CL hq] at E;exact Ev.ret (.inr ⟨by simp,_,_,path,sx,_,_,_,_,_,_,_,_,_,hj,rfl,rfl,.inl ⟨rfl,E⟩⟩)
  have l4:=iE hq;have Ow:sx.left+1≤fx:=pd.resolve_right (by rw[hq];simp)
  obtain⟨fy,rfl⟩: ∃fy,fx=fy+1:=⟨fx-1,by omega⟩
  rw[uf hq] at E;refine Ev.eS (RY hj (f:=ff+1) (by omega) _ _) λzs s2 H2 e2 hj=>?_
  have m2:=dk e2;rw[Y.aJ e2] at E;refine Ev.eS (FV hj (f:=ff+1) (by omega) _) λzw s3 H3 e3 hj=>?_
  have m3:=AV e3;rw[Y.aJ e3] at E;refine Ev.is (gV _) ?_
  try simp -implicitDefEqProofs only[sS,Nat.reduceAdd]
  refine Ev.eql (λLo=>?_) (λLo=>?_)<;>try simp -implicitDefEqProofs only[sS,Nat.reduceAdd]
  ·rw[if_pos Lo] at E;refine Ev.is (nX _) ?_;refine Ev.K4 (Ir hj (f:=ff) (by omega) _) λz s4 H4 e4 hj=>?_
   rw[Y.aJ e4] at E;cases z<;>simp -implicitDefEqProofs only[sS,Nat.reduceAdd]
   ·refine Ev.call (It hj) ?_;rintro v H5 ⟨rfl,hj⟩;obtain⟨H6,g5,g6,kh⟩:=KB.fin hd hj rfl (lE 8);simp -implicitDefEqProofs only[g5,sS,Nat.reduceAdd];exact Ev.ret (.inr ⟨by simp,_,_,path,s4,_,_,_,_,_,_,_,_,_,kh,rfl,rfl,.inr ⟨rfl,Y.Rs.qg,true,rfl,rfl,E⟩⟩)
   ·obtain⟨H6,g5,g6,kh⟩:=KB.fin hd hj rfl bQ;simp -implicitDefEqProofs only[CI,g5,sS,Nat.reduceAdd];exact Ev.ret (.inr ⟨by simp,_,_,path,s4,_,_,_,_,_,_,_,_,_,kh,rfl,rfl,.inr ⟨rfl,Y.Rs.nil,false,rfl,rfl,E⟩⟩)
  rw[if_neg Lo] at E;refine Ev.eql (λhk3=>?_) (λhk3=>?_)<;>try simp -implicitDefEqProofs only[acz,acA,sS,Nat.reduceAdd]
  ·rw[if_pos hk3] at E;refine Ev.aal hd hj (by omega) λx' Hz hj=>?_
   refine Ev.is (nX _) ?_
   try simp -implicitDefEqProofs only[sS,Nat.reduceAdd]
   refine Ev.ret (.inl ⟨rfl,s3.left,by omega,x',_,Y.aw zw,s3,fy,_,_,_,_,_,_,_,_,hj,rfl,by omega,.inl (by omega),nM _,λe he=>?_,by simp;omega,E,rfl⟩)
   rcases List.mem_append.1 he with h|h
   ·exact hp e h
   ·rw[List.mem_singleton] at h;subst h;exact hnn
  ·rw[if_neg hk3] at E;obtain⟨a0,a1⟩:=KB.oa hj;simp -implicitDefEqProofs only[a1,sS,Nat.reduceAdd];refine Ev.call (aak hj (ff:=ff) (by omega) (λH o hg=>hg.en) (by have:=hd.lt;omega) hp (by omega) op hnn _ _) ?_
   rintro v H5 ⟨rfl,hj⟩;obtain⟨H6,g5,g6,kh⟩:=KB.fin hd hj rfl (yU (Y.ah (Y.lD (ff+1) (n9 op) nn zs zw path) s3).1.1);simp -implicitDefEqProofs only[g5,sS,Nat.reduceAdd];exact Ev.ret (.inr ⟨by simp,_,_,path,_,_,_,_,_,_,_,_,_,_,kh,rfl,rfl,.inr ⟨rfl,_,_,rfl,rfl,E⟩⟩)
 ·rintro e vs Hx ⟨c1,x,path,sx,x5,aM,x6,x8,x9,bO,dC,cw,dE,hj,hc,rfl,he⟩;rcases he with⟨he,E⟩|⟨he,rr,bb,rfl,rfl,E⟩
  ·simp only at he;subst he;obtain⟨H6,g5,g6,kh⟩:=KB.fin hd hj hc bQ;simp -implicitDefEqProofs only[Ko,xU,CI,g5,g6,sS,Nat.reduceAdd];exact Ev.ret (jx.of (z:=Y.Rs.nil) (hU kh) E)
  ·simp only at he;subst he;obtain⟨_,o1,_,hg⟩:=id hj;have TF:=pQ i1 (yU rr) (s:=aA) Hx hg.k1.1;show Ev (λ_=>af (pS (iY Tryz.prog 47 (pv i1) Hx) Hx) λv _=>some (Value.tuple #[v,.bool bb],Hx)) _
   simp -implicitDefEqProofs only[Xm,TF,sS,Nat.reduceAdd];exact Ev.ret (jx.of (hU hj) E)
abbrev Lq (K:aa→aj→Prop)(p:Nat)(st:Y.St)(t:Y.Tr Y.Rs):Value→aa→Prop:=λv H'=>v=gj (yU (Y.ah t st).1) aA∧JX K p (Y.ah t st).2 H'
theorem Lq.of {t:Y.Tr Y.Rs}{z:Y.Rs}(hj:JX K p s1 H')(e:Y.ah t st=(z,s1)):Lq K p st t (gj (yU z) aA) H':=by unfold Lq;rw[e];exact⟨rfl,hj⟩
theorem F5 {f:Nat}{a k z:Int}{s s':Y.St}(e:Y.ah (Y.nt f a k) s=(z,s')):s'.left≤s.left-1:=by
 unfold Y.nt Y.kW at e;rw[Y.bind_assoc,Y.ak] at e;have h1:(Y.ah (Y.rd a) s).2.left=s.left-1:=dj rfl;have h2:=dk e;omega
theorem CM {g f:Nat}{op:Y.Op}{n:Int}{path:List Y.En}{s s':Y.St}{z:Y.Rs×Bool}(h:s.off=false)(e:Y.ah (Y.dP g op (f+1) n path) s=(z,s')):s'.left≤s.left-1:=by
 rw[uf h,Y.ak] at e;have h1:(Y.ah (Y.nt g n op.key) s).2.left≤s.left-1:=F5 rfl;have h2:=dk e;omega
theorem Eh {g f:Nat}{op:Y.Op}{s:Y.St}(h:s.off=true):Y.ah (Y.gh g op f) s=(Y.Rs.nil,s):=by
 cases f with
 |zero=>rfl
 |succ f=>unfold Y.gh;simp only[Y.ak,bk,bH,bL,cR,cS,ne_eq,not_true_eq_false,not_false_eq_true,if_true,if_false,Bool.not_true,Bool.not_false,true_and,and_true,false_and,and_false,true_or,or_true,false_or,or_false,Bool.false_eq_true,decide_true,decide_false,h]
theorem aef {g f:Nat}{op:Y.Op}{s:Y.St}(h:s.off=false):Y.ah (Y.gh g op (f+1)) s=Y.ah (Y.dP g op g 1 [] >>= λre=>if re.2=true then pure re.1 else Y.gh g op f) s:=by
 conv=>lhs;unfold Y.gh
 simp only[Y.ak,bk,bH,bL,cR,cS,ne_eq,not_true_eq_false,not_false_eq_true,if_true,if_false,Bool.not_true,Bool.not_false,true_and,and_true,false_and,and_false,true_or,or_true,false_or,or_false,Bool.false_eq_true,decide_true,decide_false,h]
theorem OJ (h:JX K p st H){ff:Nat}(Xi:st.left≤ff)(op:jY):aE (run G) 127 [pv p,jj op] H (Lq K p st (Y.gh (ff+1) (n9 op) (ff+1))):=by
 refine Ev.up (t:=λk=>VZ (run G k) k (pv p) (jj op) H) ?_ λk=>QV ..
 obtain⟨hK,b,hr,hk⟩:=id h;obtain⟨i0,e0⟩: ∃i,i=H.length:=⟨_,rfl⟩;obtain⟨i1,e1⟩: ∃i,i=H.length+1:=⟨_,rfl⟩;obtain⟨t,PN,Cw⟩:=gC b H.length;have hd:Xl H b p i0 i1 t:=⟨e0,e1,PN,λi hi=>by have:=Cw i hi;omega⟩
 obtain⟨H1,fV⟩: ∃z,z=H.new ⟨n5 op,39,1,false⟩:=⟨_,rfl⟩;have l1:H1.length=H.length+1:=by rw[fV,cA]
 obtain⟨H2,im⟩: ∃z,z=H1.new ⟨rc bQ,47,1,false⟩:=⟨_,rfl⟩;have fv:JX (λH' o=>Fr H b H' o [(p:Int)]∧Cl i0 (n5 op) 39 H' o) p st H1:=by
  rw[fV];have OH:JX (λH' o=>Fr H b H' o [(p:Int)]) p st H:=⟨bJ.base (by simp),b,hr,Fr.refl _ _ _⟩
  refine OH.nB _ _ 1 ((bJ.base (by simp)).and λH o H' o' a f=>a.fr f (by simp)) λo hk f=>⟨hk.new _ _,?_⟩
  rw[e0];exact Cl.made
 have fH:JX (KB H b p i0 i1 t op (rc bQ) aA []) p st H2:=by
  rw[im];refine fv.nB _ _ 1 (KB.eU hd) λo hk f=>⟨hk.1.new _ _,hk.2.new,?_,.inl ⟨rfl,rfl⟩⟩
  rw[e1, ←l1];exact Cl.made
 have bx:=CH op H;rw[←e0, ←fV] at bx;have n1:aS H1 47 1 [cv 0,.bool false,cv 0,cv 0,cv 0,aA]=(pv i1,H2):=by rw[im,e1, ←l1];rfl
 have hU: ∀{c1:List Value} {x:Value} {path:List Y.En} {s':Y.St} {H':aa},JX (KB H b p i0 i1 t op c1 x path) p s' H'→JX K p s' H':=λhj=>hj.mono hK λo' hg=>hK _ _ _ _ hk hg.fr
 simp -implicitDefEqProofs only[VZ,bx,n1,sS,Nat.reduceAdd];refine Ev.loop (k:=st.left) (λk vs Hx=>∃(sx:Y.St) (fx:Nat) (aO x6 aU x5:Value),JX (KB H b p i0 i1 t op (rc bQ) aA []) p sx Hx∧k=sx.left∧sx.left≤ff∧(sx.left+1≤fx∨sx.off=true)∧Y.ah (Y.gh (ff+1) (n9 op) (ff+1)) st=Y.ah (Y.gh (ff+1) (n9 op) fx) sx∧vs=[pv p,jj op,pv i1,aO,pv i0,x6,aU,x5])
  (λr=>∃(c1:List Value) (sx:Y.St) (aO x6 aU x5:Value),JX (KB H b p i0 i1 t op c1 aA []) p sx r.2.2∧c1.length=6∧r.2.1=[pv p,jj op,pv i1,aO,pv i0,x6,aU,x5]∧((r.1= .exit 0∧Y.ah (Y.gh (ff+1) (n9 op) (ff+1)) st=(Y.Rs.nil,sx))∨(r.1= .ret∧∃rr,c1=rc (yU rr)∧Y.ah (Y.gh (ff+1) (n9 op) (ff+1)) st=(rr,sx))))
  ⟨st,ff+1,_,_,_,_,fH,rfl,Xi,.inl (by omega),rfl,rfl⟩ ?_ ?_
 ·rintro k vs Hx ⟨sx,fx,aO,x6,aU,x5,hj,rfl,hl,pd,E,rfl⟩;obtain⟨a0,a1⟩:=KB.oa hj;simp -implicitDefEqProofs only[J8,xE,sS,Nat.reduceAdd];refine Ev.nW hj (λhq=>?_) (λhq=>?_)<;>try simp -implicitDefEqProofs only[a1,sS,Nat.reduceAdd]
  ·rw[Eh hq] at E;exact Ev.ret (.inr ⟨by simp,_,sx,_,_,_,_,hj,rfl,rfl,.inl ⟨rfl,E⟩⟩)
  have l4:=iE hq;have Ow:sx.left+1≤fx:=pd.resolve_right (by rw[hq];simp)
  obtain⟨fy,rfl⟩: ∃fy,fx=fy+1:=⟨fx-1,by omega⟩
  rw[aef hq] at E;refine Ev.call (Ln hj (ff:=ff) hl op) ?_;rintro v H5 ⟨rfl,hj⟩;generalize hR:Y.ah (Y.dP (ff+1) (n9 op) (ff+1) 1 []) sx=R at hj
  obtain⟨⟨rr,bb⟩,s2⟩:=R;have m2:=CM hq hR;rw[Y.aJ hR] at E;simp only at hj;obtain⟨H6,C1⟩: ∃z,z=H5.new ⟨rc bQ,47,1,false⟩:=⟨_,rfl⟩;have n2:aS H5 47 1 [cv 0,.bool false,cv 0,cv 0,cv 0,aA]=(pv H5.length,H6):=by rw[C1];rfl
  have n8:JX (λH' o=>KB H b p i0 i1 t op (rc bQ) aA [] H' o∧Cl H5.length (rc bQ) 47 H' o∧i1<H5.length) p s2 H6:=by
   rw[C1];refine hj.nB _ _ 1 ((KB.eU hd).and λH o H' o' a f=>⟨a.1.fr f (by simp),a.2⟩) λo hk f=>⟨KB.eU hd _ _ _ _ hk (f.wk (by simp)),Cl.made,ar hk.k1.1⟩
  obtain⟨_,o6,hr6,hg6,hc6,hi6⟩:=id n8;have mj:=tD H5.length (yU rr) (s:=aA) rfl H6 hc6.1 rfl;obtain⟨H7,PQ⟩: ∃z,z=H6.put H5.length ⟨rc (yU rr),47,1,false⟩:=⟨_,rfl⟩;rw[←PQ] at mj;have CE:JX (λH' o=>KB H b p i0 i1 t op (rc bQ) aA [] H' o∧Cl H5.length (rc (yU rr)) 47 H' o∧i1<H5.length) p s2 H7:=by
   rw[PQ];refine n8.tH (λo hg=>hg.2.1) ((KB.eU hd).and λH o H' o' a f=>⟨a.1.fr f (by simp),a.2⟩) λo hg=>⟨⟨hg.1.fr.put λhh=>by omega,hg.1.k0.put (by omega),hg.1.k1.put (by omega),.inl ⟨rfl,rfl⟩⟩,hg.2.1.self,hg.2.2⟩
  have TN:JX (KB H b p i0 i1 t op (rc bQ) aA []) p s2 H7:=CE.mono (KB.eU hd) λo a=>a.1
  obtain⟨_,o7,hr7,hg7,hc7,hi7⟩:=id CE;have uu:=pQ H5.length (yU rr) (s:=aA) H7 hc7.1;obtain⟨H8,g5,g6,kh⟩:=KB.fin hd TN rfl (yU rr);simp -implicitDefEqProofs only[n2,mj,sS,Nat.reduceAdd];cases bb<;>simp -implicitDefEqProofs only[uu,g5,sS,Nat.reduceAdd]
  ·exact Ev.ret (.inl ⟨rfl,s2.left,by omega,s2,fy,_,_,_,_,TN,rfl,by omega,.inl (by omega),by rw[E];rfl,rfl⟩)
  ·exact Ev.ret (.inr ⟨by simp,_,s2,_,_,_,_,kh,rfl,rfl,.inr ⟨rfl,rr,rfl,by rw[E];rfl⟩⟩)
 ·rintro e vs Hx ⟨c1,sx,aO,x6,aU,x5,hj,hc,rfl,he⟩;rcases he with⟨he,E⟩|⟨he,rr,rfl,E⟩
  ·simp only at he;subst he;obtain⟨H6,g5,g6,kh⟩:=KB.fin hd hj hc bQ;simp -implicitDefEqProofs only[J9,xF,CI,g5,g6,sS,Nat.reduceAdd];exact Ev.ret (Lq.of (z:=Y.Rs.nil) (hU kh) E)
  ·simp only at he;subst he;obtain⟨_,o1,_,hg⟩:=id hj;have TF:=pQ i1 (yU rr) (s:=aA) Hx hg.k1.1;show Ev (λ_=>af (pS (iY Tryz.prog 47 (pv i1) Hx) Hx) λv _=>some (v,Hx)) _
   simp -implicitDefEqProofs only[Xm,TF,sS,Nat.reduceAdd];exact Ev.ret (Lq.of (hU hj) E)
end
end Go.Proofs.YtgfgglponbmgmaaGreat.Fun
end
