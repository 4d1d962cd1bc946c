/- Texts of the proof of peekPlays_holds, put together by a small program of ours (names shortened, spaces taken out). No condition beyond the given statement. -/
import Derived.Test.YtgfgglponbmgmaaGreatPKP11
import Derived.Test.YtgfgglponbmgmaaGreatPKP10
import Derived.Test.YtgfgglponbmgmaaGreatPKP15
import Derived.Test.YtgfgglponbmgmaaGreatPKP17
import Derived.Test.YtgfgglponbmgmaaGreatPKP27
import Derived.Test.YtgfgglponbmgmaaGreatPKP14
set_option linter.unusedVariables false
set_option linter.unusedSimpArgs false
set_option linter.unnecessarySimpa false
noncomputable section
section
namespace Go.Proofs.YtgfgglponbmgmaaGreat.Fun
open Go Go.RowKit Go.Proofs.YtgfgglponbmgmaaGreatA.Am
set_option maxRecDepth 10000
section
open Go.Proofs.YtgfgglponbmgmaaGreatA
variable {G:ae} {H H':aa} {o o':aj} {p c n i:Nat} {K K':aa→aj→Prop} {t q:Int} {x:Value} {path:List Y.En} {st MJ s1:Y.St} {α β:Type} {cs:List Value} {T:TypeId}
abbrev zh (r:Y.Rs):eN:=⟨r.Ex,r.found,r.key,r.value,0,[]⟩
abbrev jC (K:aa→aj→Prop)(p:Nat)(st:Y.St)(t:Y.Tr (Y.Rs×Bool)):Value→aa→Prop:=λv H'=>v= .tuple #[gu (zh (Y.ah t st).1.1) aA,.bool (Y.ah t st).1.2]∧JX K p (Y.ah t st).2 H'
theorem jC.of {t:Y.Tr (Y.Rs×Bool)}{z:Y.Rs}{b:Bool}(hj:JX K p s1 H')(e:Y.ah t st=((z,b),s1)):jC K p st t (.tuple #[gu (zh z) aA,.bool b]) H':=by unfold jC;rw[e];exact⟨rfl,hj⟩
section
variable {B:aa} {b:aj} {i0 i1 i2:Nat} {op:kf} {c1:List Value} {r2:eN}
theorem KL.Pk (h:JX (KL B b p i0 i1 i2 op c1 r2) p st H):aq (.pointer (some ⟨i0,0,none⟩)) H=some (cv op.kind)∧aq (.pointer (some ⟨i0,1,none⟩)) H=some (cv op.key)∧c8 3 (pv i0) H=some (jr op)∧aq (.pointer (some ⟨i2,1,none⟩)) H=some (.bool r2.found)∧c8 6 (pv i2) H=some (gu r2 aA):=by
 obtain⟨_,o,_,hg⟩:=h;exact⟨an i0 0 _ hg.k0.1,an i0 1 _ hg.k0.1,Qy hg.k0.1,an i2 1 _ hg.k2.1,pO _ _ _ hg.k2.1⟩
theorem KL.Ye (hd:KLd B i0 i1 i2)(h:JX (KL B b p i0 i1 i2 op c1 r2) p st H)(hl:c1.length=6)(r:eN): ∃H2,bE 6 (pv i1) (gu r aA) H=some (undef,H2)∧c8 6 (pv i1) H2=some (gu r aA)∧JX (KL B b p i0 i1 i2 op (rc r) r2) p st H2:=by
 obtain⟨_,o,hr,hg⟩:=id h;obtain⟨e0,e1,e2⟩:=hd;refine⟨_,tV i1 r (s:=aA) rfl H hg.k1.1 hl,pO _ _ _ (aG hg.k1.1),h.tY (λo hg=>hg.k1) KL.eZ λo hg=>⟨hg.fr.put λhh=>by omega,hg.k0.put (by omega),hg.k1.self,hg.k2.put (by omega)⟩⟩
theorem KL.UO (hd:KLd B i0 i1 i2)(h:JX (KL B b p i0 i1 i2 op c1 r2) p st H)(r:eN): ∃H2,bE 6 (pv i2) (gu r aA) H=some (undef,H2)∧JX (KL B b p i0 i1 i2 op c1 r) p st H2:=by
 obtain⟨_,o,hr,hg⟩:=id h;obtain⟨e0,e1,e2⟩:=hd;refine⟨_,tV i2 r (s:=aA) rfl H hg.k2.1 rfl,h.tY (λo hg=>hg.k2) KL.eZ λo hg=>⟨hg.fr.put λhh=>by omega,hg.k0.put (by omega),hg.k1.put (by omega),hg.k2.self⟩⟩
end
theorem aa4 (h:JX K p st H){ff:Nat}(Yd:st.left≤ff)(hx: ∀H o,K H o→Fb H o q x path)(hq:q≠(p:Int))(hp: ∀e∈path, -9223372036854775808≤e.node∧e.node≤65536)(hn:path.length≤2147483648)(op:kf){nn:Int}(hnn: -9223372036854775808≤nn∧nn≤65536)(s w:Int):
  aF (run G) 167 [pv p,jr op,cv nn,cv s,cv w,x] H (jC K p st (Y.lH (ff+1) (og op) nn s w path)):=by
 have wnn:IntKind.i64.wrap (nn+2)=nn+2:=fZ (by omega)
 refine Ev.up (t:=λk=>V5 (run G k) k (pv p) (jr op) (cv nn) (cv s) (cv w) x H) ?_ λk=>Q4 ..
 obtain⟨hK,b,hr,hk⟩:=id h;have hxB:=hx _ _ hk;have ZI: ∀{H':aa} {o':aj},Fr H b H' o' [(p:Int)]→Fb H' o' q x path:=λf=>hxB.fr f (by simpa using hq)
 obtain⟨i0,e0⟩: ∃i,i=H.length:=⟨_,rfl⟩;obtain⟨i1,e1⟩: ∃i,i=H.length+1:=⟨_,rfl⟩;obtain⟨i2,e2⟩: ∃i,i=H.length+2:=⟨_,rfl⟩;have hd:KLd H i0 i1 i2:=⟨e0,e1,e2⟩;obtain⟨H1,ga⟩: ∃z,z=H.new ⟨n6 op,39,1,false⟩:=⟨_,rfl⟩;have l1:H1.length=H.length+1:=by rw[ga,cB]
 obtain⟨H2,iD⟩: ∃z,z=H1.new ⟨rc bQ,47,1,false⟩:=⟨_,rfl⟩;have l2:H2.length=H.length+2:=by rw[iD,cB,l1]
 obtain⟨H3,mA⟩: ∃z,z=H2.new ⟨rc bQ,47,1,false⟩:=⟨_,rfl⟩;have fG:JX (λH' o=>Fr H b H' o [(p:Int)]∧Cl i0 (n6 op) 39 H' o) p st H1:=by
  rw[ga];have Pl:JX (λH' o=>Fr H b H' o [(p:Int)]) p st H:=⟨bK.base (by simp),b,hr,Fr.refl _ _ _⟩
  refine Pl.nG _ _ 1 ((bK.base (by simp)).and λH o H' o' a f=>a.fr f (by simp)) λo hk f=>⟨hk.new _ _,?_⟩
  rw[e0];exact Cl.made
 have fM:JX (λH' o=>(Fr H b H' o [(p:Int)]∧Cl i0 (n6 op) 39 H' o)∧Cl i1 (rc bQ) 47 H' o) p st H2:=by
  rw[iD];refine fG.nG _ _ 1 (fG.1.and λH o H' o' a f=>a.fr f (by simp)) λo hk f=>⟨⟨hk.1.new _ _,hk.2.new⟩,?_⟩
  rw[e1, ←l1];exact Cl.made
 have gF:JX (KL H b p i0 i1 i2 op (rc bQ) bQ) p st H3:=by
  rw[mA];refine fM.nG _ _ 1 KL.eZ λo hk f=>⟨hk.1.1.new _ _,hk.1.2.new,hk.2.new,?_⟩
  rw[e2, ←l2];exact Cl.made
 obtain⟨H4,g4,jb⟩:=KL.UO hd gF bQ;have bx:=C3 op H;rw[←e0, ←ga] at bx;have n1:aS H1 47 1 [cv 0,.bool false,cv 0,cv 0,cv 0,aA]=(pv i1,H2):=by rw[iD,e1, ←l1];rfl
 have n2:aS H2 47 1 [cv 0,.bool false,cv 0,cv 0,cv 0,aA]=(pv i2,H3):=by rw[mA,e2, ←l2];rfl
 have ik: ∀{c1:List Value} {r2:eN} {s':Y.St} {H':aa},JX (KL H b p i0 i1 i2 op c1 r2) p s' H'→JX K p s' H':=λhj=>hj.mono hK λo' hg=>hK _ _ _ _ hk hg.fr
 have J2: ∀{s2:Y.St} {H1:aa} {res:Y.Rs} (leaf:Bool) (q z19:Int) (aI bM bP iZ aV kX bf vm mn nf:Value),JX (KL H b p i0 i1 i2 op (rc bQ) (zh res)) p s2 H1→Y.ah (Y.lH (ff+1) (og op) nn s w path) st=((res,decide (z19=1)),s2)→Ev (λk=>ph (run G k) k [pv p,jr op,cv nn,cv s,cv w,x,pv i1,aI,.bool leaf,bM,cv q,pv i0,bP,pv i2,iZ,aV,kX,bf,vm,cv z19,mn,nf] H1) λr=>jC K p st (Y.lH (ff+1) (og op) nn s w path) r.1 r.2:=by
  intro s2 H1 res leaf q z19 aI bM bP iZ aV kX bf vm mn nf hj E;obtain⟨a0,a1,a2,a3,a4⟩:=KL.Pk hj;obtain⟨H5,g5,g6,lC⟩:=KL.Ye hd hj rfl (zh res);simp -implicitDefEqProofs only[J6,xg,a4,sS,Nat.reduceAdd];refine Ev.eql (λhq=>?_) (λhq=>?_)<;>try simp -implicitDefEqProofs only[g5,g6,sS,Nat.reduceAdd]
  ·exact Ev.ret (jC.of (ik lC) (by rw[E];simp[hq]))
  ·exact Ev.ret (jC.of (ik lC) (by rw[E];simp[hq]))
 have Za: ∀{s2:Y.St} {H1:aa} {r2:eN},JX (KL H b p i0 i1 i2 op (rc bQ) r2) p s2 H1→Y.ah (Y.lH (ff+1) (og op) nn s w path) st=((Y.Rs.qh,true),s2)→Ev (λk=>af (run G k 166 [] H1) λy Hy=>af (bE 6 (pv i1) y Hy) λ_ Hy=>af (pS (c8 6 (pv i1) Hy) Hy) λr0 _=>some (Value.tuple #[r0,.bool true],Hy)) λr=>jC K p st (Y.lH (ff+1) (og op) nn s w path) r.1 r.2:=by
  intro s2 H1 r2 hj E;refine Ev.call (I2 hj) ?_;rintro v H5 ⟨rfl,hj⟩;obtain⟨H6,g5,g6,lC⟩:=KL.Ye hd hj rfl (lI 8);simp -implicitDefEqProofs only[g5,g6,sS,Nat.reduceAdd];exact Ev.ret (jC.of (z:=Y.Rs.qh) (ik lC) E)
 have J1: ∀{s2:Y.St} {H1:aa} {res:Y.Rs} (leaf:Bool) (q o:Int) (aI bM bP iZ aV kX bf vm mn nf:Value),JX (KL H b p i0 i1 i2 op (rc bQ) (zh res)) p s2 H1→s2.left≤ff→Y.ah (Y.lH (ff+1) (og op) nn s w path) st=Y.ah (if o=3 then pure (Y.Rs.qh,true) else if o=1∧((og op).kind≠2∨res.found=false) then Y.dj (ff+1) none path >>= λ_=>pure (res,true) else pure (res,decide (o=1))) s2→Ev (λk=>nh (run G k) k [pv p,jr op,cv nn,cv s,cv w,x,pv i1,aI,.bool leaf,bM,cv q,pv i0,bP,pv i2,iZ,aV,kX,bf,vm,cv o,mn,nf] H1) λr=>jC K p st (Y.lH (ff+1) (og op) nn s w path) r.1 r.2:=by
  intro s2 H1 res leaf q o aI bM bP iZ aV kX bf vm mn nf hj hl E;obtain⟨a0,a1,a2,a3,a4⟩:=KL.Pk hj;simp -implicitDefEqProofs only[J7,xh,sS,Nat.reduceAdd];have Yf:o=1→Y.ah (Y.lH (ff+1) (og op) nn s w path) st=Y.ah (Y.dj (ff+1) none path >>= λ_=>pure (res,true)) s2→∀(mn nf:Value),Ev (λk=>af (run G k 126 [pv p,x] H1) λ_ Hy=>ph (run G k) k [pv p,jr op,cv nn,cv s,cv w,x,pv i1,aI,.bool leaf,bM,cv q,pv i0,bP,pv i2,iZ,aV,kX,bf,vm,cv o,mn,nf] Hy) λr=>jC K p st (Y.lH (ff+1) (og op) nn s w path) r.1 r.2:=by
   intro ho E mn nf;refine Ev.Zk (SM hj (ff:=ff) hl (λH o hg=>ZI hg.fr) hp hn) λv u s3 H3 e3 gF=>?_
   rw[Y.aJ e3] at E;refine J2 _ _ _ _ _ _ _ _ _ _ _ _ _ gF ?_;rw[E];simp[ho,bH]
  refine Ev.eql (λh3=>?_) (λh3=>?_)<;>try simp -implicitDefEqProofs only[sS,Nat.reduceAdd]
  ·exact Za hj (by rw[E,if_pos h3];rfl)
  rw[if_neg h3] at E;refine Ev.eql (λh1=>?_) (λh1=>?_)<;>try simp -implicitDefEqProofs only[a0,sS,Nat.reduceAdd]
  ·refine Ev.neq (λhk=>?_) (λhk=>?_)<;>try simp -implicitDefEqProofs only[a3,sS,Nat.reduceAdd]
   ·rw[if_pos ⟨h1,.inl hk⟩] at E;exact Yf h1 E _ _
   ·cases hf:res.found<;>simp -implicitDefEqProofs only[sS,Nat.reduceAdd]
    ·rw[if_pos ⟨h1,.inr hf⟩] at E;exact Yf h1 E _ _
    ·rw[if_neg (by simp[hk,hf])] at E
     exact J2 _ _ _ _ _ _ _ _ _ _ _ _ _ hj (by rw[E];rfl)
  ·rw[if_neg (by simp[h1])] at E
   exact J2 _ _ _ _ _ _ _ _ _ _ _ _ _ hj (by rw[E];rfl)
 have J0: ∀{s2:Y.St} {H1:aa} {res:Y.Rs} (leaf:Bool) (q:Int) (aI bM bP iZ aV kX bf vm bt mn nf:Value),JX (KL H b p i0 i1 i2 op (rc bQ) (zh res)) p s2 H1→s2.left≤ff→Y.ah (Y.lH (ff+1) (og op) nn s w path) st=Y.ah (Y.y0 (ff+1) (og op) nn s w q leaf path res) s2→Ev (λk=>pn (run G k) k [pv p,jr op,cv nn,cv s,cv w,x,pv i1,aI,.bool leaf,bM,cv q,pv i0,bP,pv i2,iZ,aV,kX,bf,vm,bt,mn,nf] H1) λr=>jC K p st (Y.lH (ff+1) (og op) nn s w path) r.1 r.2:=by
  intro s2 H1 res leaf q aI bM bP iZ aV kX bf vm bt mn nf hj hl E;obtain⟨a0,a1,a2,a3,a4⟩:=KL.Pk hj;obtain⟨H5,g5,g6,lC⟩:=KL.Ye hd hj rfl (zh res);have E2:Y.ah (Y.lH (ff+1) (og op) nn s w path) st=Y.ah (if s2.off=true∨(op.kind=1∧res.found=true)∨(op.kind=3∧res.found=false) then pure (res,true) else Y.mq (og op) w q leaf res.found >>= λxo=>if xo.2=false then pure (Y.Rs.qh,true) else Y.Tr.rc 0 (Y.su (nn+2) s w xo.1 >>= λo=>Y.Tr.ld (if o=3 then pure (Y.Rs.qh,true) else if o=1∧((og op).kind≠2∨res.found=false) then Y.dj (ff+1) none path >>= λ_=>pure (res,true) else pure (res,decide (o=1))))) s2:=by
   rw[E];unfold Y.y0;simp only[Y.al,bl,bH,bN,cU,cV,ne_eq,not_true_eq_false,not_false_eq_true,if_true,if_false,Bool.not_true,Bool.not_false,true_and,and_true,false_and,and_false,true_or,or_true,false_or,or_false,Bool.false_eq_true,decide_true,decide_false];rfl
  have uR:(s2.off=true∨(op.kind=1∧res.found=true)∨(op.kind=3∧res.found=false))→Ev (λk=>af (some (gu (zh res) aA,H1)) λy Hy=>af (bE 6 (pv i1) y Hy) λ_ Hy=>af (pS (c8 6 (pv i1) Hy) Hy) λr0 _=>some (Value.tuple #[r0,.bool true],Hy)) λr=>jC K p st (Y.lH (ff+1) (og op) nn s w path) r.1 r.2:=by
   intro hc;simp -implicitDefEqProofs only[g5,g6,sS,Nat.reduceAdd];exact Ev.ret (jC.of (ik lC) (by rw[E2,if_pos hc];rfl))
  simp -implicitDefEqProofs only[g5,g6,sS,Nat.reduceAdd] at uR;have Pm: ¬(s2.off=true∨(op.kind=1∧res.found=true)∨(op.kind=3∧res.found=false))→∀(iZ:Value),Ev (λk=>af (run G k 169 [pv p,jr op,cv w,cv q,.bool leaf,.bool res.found] H1) λy Hy=>af (cm 0 y Hy) λdq Hy=>af (cm 1 y Hy) λdF Hy=>af (pS (iC .not dF) Hy) λdS Hy=>aX dS (af (run G k 166 [] Hy) λy Hy=>af (bE 6 (pv i1) y Hy) λ_ Hy=>af (pS (c8 6 (pv i1) Hy) Hy) λr0 _=>some (Value.tuple #[r0,.bool true],Hy))
    (af (bE 1 (.pointer (some ⟨p,8,none⟩)) (cv 0) Hy) λ_ Hy=>af (run G k 116 [pv p,cv (IntKind.i64.wrap (nn+2)),cv s,cv w,dq] Hy) λia Hy=>af (pS (aq (.pointer (some ⟨p,8,none⟩)) Hy) Hy) λD0 Hy=>af (pS (ai Tryz.prog .gtr 3 D0 (cv 0)) Hy) λz5 Hy=>aX z5 (af (pS (aq (.pointer (some ⟨p,8,none⟩)) Hy) Hy) λwY Hy=>af (bE 1 (.pointer (some ⟨p,9,none⟩)) wY Hy) λ_ Hy=>nh (run G k) k [pv p,jr op,cv nn,cv s,cv w,x,pv i1,aI,.bool leaf,bM,cv q,pv i0,bP,pv i2,iZ,dF,dS,dq,z5,ia,mn,nf] Hy)
     (nh (run G k) k [pv p,jr op,cv nn,cv s,cv w,x,pv i1,aI,.bool leaf,bM,cv q,pv i0,bP,pv i2,iZ,dF,dS,dq,z5,ia,mn,nf] Hy))) λr=>jC K p st (Y.lH (ff+1) (og op) nn s w path) r.1 r.2:=by
   intro hc iZ;rw[if_neg hc] at E2;refine Ev.EA (SO hj _ _ _ _ _) λz zb s3 H3 e3 hj=>?_
   have m3:=dp e3;rw[Y.aJ e3] at E2;cases zb<;>simp -implicitDefEqProofs only[sS,Nat.reduceAdd]
   ·exact Za hj (by rw[E2];rfl)
   rw[if_neg (by simp),cU] at E2
   refine Ev.Uv hj λH4 hj=>?_
   rw[wnn];refine Ev.eY (CU hj _ _ _ _) λo s5 H5 e5 hj=>?_
   have m5:=dp e5;have m6:({s3 with oO:=0}:Y.St).left=s3.left:=rfl
   rw[Y.aJ e5,cV] at E2;refine Ev.Uw hj ?_;refine Ev.gtr (λhq=>?_) (λhq=>?_)<;>try simp -implicitDefEqProofs only[sS,Nat.reduceAdd]
   ·rw[if_pos hq] at E2;refine Ev.Uw hj ?_;refine Ev.aaE hj λH6 hj=>?_
    exact J1 _ _ _ _ _ _ _ _ _ _ _ _ _ hj (by show s5.left≤ff;omega) E2
   ·rw[if_neg hq] at E2;exact J1 _ _ _ _ _ _ _ _ _ _ _ _ _ hj (by omega) E2
  simp -implicitDefEqProofs only[J8,xi,sS,Nat.reduceAdd];refine Ev.nX hj (λhq=>?_) (λhq=>?_)<;>try simp -implicitDefEqProofs only[a0,sS,Nat.reduceAdd]
  ·(try simp -implicitDefEqProofs only[a4,g5,g6,sS,Nat.reduceAdd]);exact uR (.inl hq)
  refine Ev.eql (λqx=>?_) (λqx=>?_)<;>try simp -implicitDefEqProofs only[a0,a3,sS,Nat.reduceAdd]
  ·cases hf:res.found<;>simp -implicitDefEqProofs only[a0,sS,Nat.reduceAdd]
   ·refine Ev.eql (λkB=>?_) (λkB=>?_)<;>try simp -implicitDefEqProofs only[a0,a2,a3,a4,hf,g5,g6,sS,Nat.reduceAdd]
    ·exact uR (.inr (.inr ⟨kB,hf⟩))
    ·have:=Pm (by simp[hq,qx,hf,kB])
     rw[hf] at this;exact this _
   ·(try simp -implicitDefEqProofs only[a4,g5,g6,sS,Nat.reduceAdd]);exact uR (.inr (.inl ⟨qx,hf⟩))
  ·refine Ev.eql (λkB=>?_) (λkB=>?_)<;>try simp -implicitDefEqProofs only[a0,a2,a3,a4,sS,Nat.reduceAdd]
   ·cases hf:res.found<;>simp -implicitDefEqProofs only[a2,a3,a4,hf,g5,g6,sS,Nat.reduceAdd]
    ·exact uR (.inr (.inr ⟨kB,hf⟩))
    ·have:=Pm (by simp[hq,qx,hf])
     rw[hf] at this;exact this _
   ·exact Pm (by simp[hq,qx,kB]) _
 have a0:=KL.Pk jb;simp -implicitDefEqProofs only[V5,bx,n1,C4,n2,g4,sS,Nat.reduceAdd];refine Ev.is (hU _) ?_
 try simp -implicitDefEqProofs only[sS,Nat.reduceAdd]
 refine Ev.eql (λqx=>?_) (λqx=>?_)<;>try simp -implicitDefEqProofs only[sS,Nat.reduceAdd]
 ·refine Ev.is (nY _) ?_;refine Ev.eY (cZ jb _) λzq s2 Hz e2 hj=>?_
  have m2:=dp e2;obtain⟨a0,a1,a2,a3,a4⟩:=KL.Pk hj;simp -implicitDefEqProofs only[a1,sS,Nat.reduceAdd];refine Ev.eql (λkB=>?_) (λkB=>?_)<;>try simp -implicitDefEqProofs only[sS,Nat.reduceAdd]
  ·refine Ev.is (nY _) ?_;simp -implicitDefEqProofs only[sS,Nat.reduceAdd,MK _ (j:=1) (by omega)]
   refine Ev.eY (cZ hj _) λzv s3 Hz e3 hj=>?_
   have m3:=dp e3;obtain⟨H6,g6,oa⟩:=KL.UO hd hj (Mb (zq,zv,true));simp -implicitDefEqProofs only[adm,Yc,g6,sS,Nat.reduceAdd];refine J0 (res:=⟨0,true,zq,zv⟩) _ _ _ _ _ _ _ _ _ _ _ _ _ oa (by omega) ?_
   unfold Y.lH;rw[if_pos qx,Y.aJ e2,if_pos kB,Y.aJ e3]
  ·refine J0 (res:=Y.Rs.nil) _ _ _ _ _ _ _ _ _ _ _ _ _ hj (by omega) ?_
   unfold Y.lH;rw[if_pos qx,Y.aJ e2,if_neg kB]
 ·refine J0 (res:=Y.Rs.nil) _ _ _ _ _ _ _ _ _ _ _ _ _ jb Yd ?_;unfold Y.lH;rw[if_neg qx]
end
section
variable {G:ae} {H H':aa} {o o':aj} {p m c:Nat} {K K':aa→aj→Prop} {t q:Int} {x:Value} {l:PL} {n i:Nat} {cs:List Value} {T:TypeId}
structure Yg (B:aa) (b:aj) (p i0 i1:Nat) (t:Int):Prop where
 e0:i0=B.length
 e1:i1=B.length+1
 lt:t< -100
 ft: ∀i,i<B.length→b i≠t
section
variable {B:aa} {b:aj} {i0 i1:Nat} {op:kf} {c1:List Value}
theorem Yg.ap (h:Yg B b p i0 i1 t):oV t p:=⟨by have:=h.lt;omega,by have:=h.lt;omega,by have:=h.lt;omega⟩
variable {α:Type} {k:Nat→Value→aa→Option α} {Q:α→Prop} {a1 a2 a3:Int} {ty:TypeId}
end
theorem adn (a b c:Int):aE Tryz.prog 37 [(0,cv a),(1,cv b),(2,cv c)]=some (.agg #[cv a,cv b,cv c]):=by kernel_rfl
theorem ado (a b c:Int)(H:aa):ay Tryz.prog 35 1 [(0,.agg #[cv a,cv b,cv c])] H=some (.slice (some ⟨H.length,0,none⟩) 1 1,H.new ⟨[cv a,cv b,cv c],37,3,false⟩):=by kernel_rfl
theorem Yh (i:Nat)(H:aa):jd Tryz.prog 47 (pv i) H=c8 6 (pv i) H:=by kernel_rfl
end
section
open Go.Proofs.YtgfgglponbmgmaaGreatA
variable {G:ae} {H H':aa} {o o':aj} {p c n i:Nat} {K K':aa→aj→Prop} {t q:Int} {x:Value} {path:List Y.En} {st MJ s1:Y.St} {α β:Type} {cs:List Value} {T:TypeId}
structure KB (B:aa) (b:aj) (p i0 i1:Nat) (t:Int) (op:kf) (c1:List Value) (x:Value) (path:List Y.En) (H:aa) (o:aj):Prop where
 fr:Fr B b H o [(p:Int)]
 k0:Cl i0 (n6 op) 39 H o
 k1:Cl i1 c1 47 H o
 en:Fb H o t x path
section
variable {B:aa} {b:aj} {i0 i1:Nat} {op:kf} {c1:List Value}
theorem KB.eZ (hd:Yg B b p i0 i1 t):bK [(p:Int)] (KB B b p i0 i1 t op c1 x path):=λH o H' o' h f=>⟨h.fr.tr f,h.k0.fr f (by simp),h.k1.fr f (by simp),h.en.fr f (by have:=hd.lt;simp;omega)⟩
theorem KB.n7 (h:JX (KB B b p i0 i1 t op c1 x path) p st H):aq (.pointer (some ⟨i0,1,none⟩)) H=some (cv op.key)∧c8 3 (pv i0) H=some (jr op):=by
 obtain⟨_,o,_,hg⟩:=h;exact⟨an i0 1 _ hg.k0.1,Qy hg.k0.1⟩
theorem KB.fin (hd:Yg B b p i0 i1 t)(h:JX (KB B b p i0 i1 t op c1 x path) p st H)(hl:c1.length=6)(r:eN): ∃H2,bE 6 (pv i1) (gu r aA) H=some (undef,H2)∧c8 6 (pv i1) H2=some (gu r aA)∧JX (KB B b p i0 i1 t op (rc r) x path) p st H2:=by
 obtain⟨_,o,hr,hg⟩:=id h;obtain⟨e0,e1,e2,e3⟩:=id hd;refine⟨_,tV i1 r (s:=aA) rfl H hg.k1.1 hl,pO _ _ _ (aG hg.k1.1),h.tY (λo hg=>hg.k1) (KB.eZ hd) λo hg=>⟨hg.fr.put λhh=>by omega,hg.k0.put (by omega),hg.k1.self,hg.en.fr ((Fr.refl H o [-9]).put λ_=>by simp[hg.k1.2]) (by simp;omega)⟩⟩
variable {k:Nat→Value→aa→Option α} {Q:α→Prop} {a1 a2 a3:Int} {ty:TypeId}
theorem Ev.aa5 (hd:Yg B b p i0 i1 t)(h:JX (KB B b p i0 i1 t op c1 x path) p st H)(hb:path.length+1≤4294967296)(hk: ∀x' H',JX (KB B b p i0 i1 t op c1 x' (path++[⟨a1,a2,a3⟩])) p st H'→Ev (λn=>k n x' H') Q):
  Ev (λn=>af (df T 3 24 x (.slice (some ⟨H.length,0,none⟩) 1 1) (H.new ⟨[cv a1,cv a2,cv a3],ty,3,false⟩)) (k n)) Q:=by
 obtain⟨_,o,hr,hg⟩:=h;obtain⟨x',H2,o2,e,s2,f2⟩:=Fb.app T ty hg.en ⟨a1,a2,a3⟩ hb;rw[e];have ha:=hd.ap;have gG:=hd.lt;refine hk x' H2 ⟨KB.eZ hd,o2,hr.fr f2 ?_ ?_ ?_,iM (hg.fr.trans f2 (rs:=[t,(p:Int)]) (by simp) (by simp)) hd.ft,hg.k0.fr f2 ?_,hg.k1.fr f2 ?_,s2⟩
 ·simp;omega
 ·simp;omega
 ·simp;omega
 ·simp;omega
 ·simp;omega
end
theorem C7 {g f:Nat}{op:Y.Op}{n:Int}{path:List Y.En}{s:Y.St}(h:s.off=true):Y.ah (Y.dV g op f n path) s=((Y.Rs.nil,true),s):=by
 cases f with
 |zero=>rfl
 |succ f=>unfold Y.dV;simp only[Y.al,bl,bH,bN,cU,cV,ne_eq,not_true_eq_false,not_false_eq_true,if_true,if_false,Bool.not_true,Bool.not_false,true_and,and_true,false_and,and_false,true_or,or_true,false_or,or_false,Bool.false_eq_true,decide_true,decide_false,h]
theorem uA {g f:Nat}{op:Y.Op}{n:Int}{path:List Y.En}{s:Y.St}(h:s.off=false):Y.ah (Y.dV g op (f+1) n path) s=Y.ah (Y.nB g n op.key >>= λs=>Y.kA g s >>= λw=>if Y.kd w=4 then Y.g9 g (Y.aw w) >>= λok=>(if ok=false then pure (Y.Rs.qh,true) else pure (Y.Rs.nil,false)) else if Y.kd w=3 then Y.dV g op f (Y.aw w) (path++[⟨n,s,w⟩]) else Y.lH g op n s w path) s:=by
 conv=>lhs;unfold Y.dV
 simp only[Y.al,bl,bH,bN,cU,cV,ne_eq,not_true_eq_false,not_false_eq_true,if_true,if_false,Bool.not_true,Bool.not_false,true_and,and_true,false_and,and_false,true_or,or_true,false_or,or_false,Bool.false_eq_true,decide_true,decide_false,h]
theorem Mg (h:JX K p st H){ff:Nat}(Yd:st.left≤ff)(op:kf):aF (run G) 156 [pv p,jr op] H (jC K p st (Y.dV (ff+1) (og op) (ff+1) 1 [])):=by
 refine Ev.up (t:=λk=>W7 (run G k) k (pv p) (jr op) H) ?_ λk=>RP ..
 have Zl:=h.left;obtain⟨hK,b,hr,hk⟩:=id h;obtain⟨i0,e0⟩: ∃i,i=H.length:=⟨_,rfl⟩;obtain⟨i1,e1⟩: ∃i,i=H.length+1:=⟨_,rfl⟩;obtain⟨t,Pg,CS⟩:=gI b H.length;have hd:Yg H b p i0 i1 t:=⟨e0,e1,Pg,λi hi=>by have:=CS i hi;omega⟩
 obtain⟨H1,ga⟩: ∃z,z=H.new ⟨n6 op,39,1,false⟩:=⟨_,rfl⟩;have l1:H1.length=H.length+1:=by rw[ga,cB]
 obtain⟨H2,iD⟩: ∃z,z=H1.new ⟨rc bQ,47,1,false⟩:=⟨_,rfl⟩;have fG:JX (λH' o=>Fr H b H' o [(p:Int)]∧Cl i0 (n6 op) 39 H' o) p st H1:=by
  rw[ga];have Pl:JX (λH' o=>Fr H b H' o [(p:Int)]) p st H:=⟨bK.base (by simp),b,hr,Fr.refl _ _ _⟩
  refine Pl.nG _ _ 1 ((bK.base (by simp)).and λH o H' o' a f=>a.fr f (by simp)) λo hk f=>⟨hk.new _ _,?_⟩
  rw[e0];exact Cl.made
 have fM:JX (KB H b p i0 i1 t op (rc bQ) aA []) p st H2:=by
  rw[iD];refine fG.nG _ _ 1 (KB.eZ hd) λo hk f=>⟨hk.1.new _ _,hk.2.new,?_,.inl ⟨rfl,rfl⟩⟩
  rw[e1, ←l1];exact Cl.made
 have bx:=C3 op H;rw[←e0, ←ga] at bx;have n1:aS H1 47 1 [cv 0,.bool false,cv 0,cv 0,cv 0,aA]=(pv i1,H2):=by rw[iD,e1, ←l1];rfl
 have ik: ∀{c1:List Value} {x:Value} {path:List Y.En} {s':Y.St} {H':aa},JX (KB H b p i0 i1 t op c1 x path) p s' H'→JX K p s' H':=λhj=>hj.mono hK λo' hg=>hK _ _ _ _ hk hg.fr
 simp -implicitDefEqProofs only[W7,bx,n1,sS,Nat.reduceAdd];refine Ev.loop (k:=st.left) (λk vs Hx=>∃(x:Value) (path:List Y.En) (nn:Int) (sx:Y.St) (fx:Nat) (x5 aM x8 x9 bM dx cw dE:Value),JX (KB H b p i0 i1 t op (rc bQ) x path) p sx Hx∧k=sx.left∧sx.left≤ff∧(sx.left+1≤fx∨sx.off=true)∧(-9223372036854775808≤nn∧nn≤65536)∧(∀e∈path, -9223372036854775808≤e.node∧e.node≤65536)∧path.length+sx.left≤1048577∧Y.ah (Y.dV (ff+1) (og op) (ff+1) 1 []) st=Y.ah (Y.dV (ff+1) (og op) fx nn path) sx∧vs=[pv p,jr op,pv i1,x5,aM,cv nn,pv i0,x8,x9,bM,dx,cw,dE,x])
  (λr=>∃(c1:List Value) (x:Value) (path:List Y.En) (sx:Y.St) (x5 aM x6 x8 x9 bM dx cw dE:Value),JX (KB H b p i0 i1 t op c1 x path) p sx r.2.2∧c1.length=6∧r.2.1=[pv p,jr op,pv i1,x5,aM,x6,pv i0,x8,x9,bM,dx,cw,dE,x]∧((r.1= .exit 0∧Y.ah (Y.dV (ff+1) (og op) (ff+1) 1 []) st=((Y.Rs.nil,true),sx))∨(r.1= .ret∧∃rr bb,x5= .bool bb∧c1=rc (zh rr)∧Y.ah (Y.dV (ff+1) (og op) (ff+1) 1 []) st=((rr,bb),sx))))
  ⟨aA,[],1,st,ff+1,_,_,_,_,_,_,_,_,fM,rfl,Yd,.inl (by omega),by omega,(λe he=>by cases he),by simpa using Zl,rfl,rfl⟩ ?_ ?_
 ·rintro k vs Hx ⟨x,path,nn,sx,fx,x5,aM,x8,x9,bM,dx,cw,dE,hj,rfl,hl,pY,hnn,hp,Y8,E,rfl⟩;obtain⟨a0,a1⟩:=KB.n7 hj;simp -implicitDefEqProofs only[KT,yd,sS,Nat.reduceAdd];refine Ev.nX hj (λhq=>?_) (λhq=>?_)<;>try simp -implicitDefEqProofs only[a0,sS,Nat.reduceAdd]
  ·rw[C7 hq] at E;exact Ev.ret (.inr ⟨by simp,_,_,path,sx,_,_,_,_,_,_,_,_,_,hj,rfl,rfl,.inl ⟨rfl,E⟩⟩)
  have l4:=iN hq;have O8:sx.left+1≤fx:=pY.resolve_right (by rw[hq];simp)
  obtain⟨fy,rfl⟩: ∃fy,fx=fy+1:=⟨fx-1,by omega⟩
  rw[uA hq] at E;refine Ev.eY (SI hj (f:=ff+1) (by omega) _ _) λzs s2 H2 e2 hj=>?_
  have m2:=dp e2;rw[Y.aJ e2] at E;refine Ev.eY (Gt hj (f:=ff+1) (by omega) _) λzw s3 H3 e3 hj=>?_
  have m3:=Bn e3;rw[Y.aJ e3] at E;refine Ev.is (hU _) ?_
  try simp -implicitDefEqProofs only[sS,Nat.reduceAdd]
  refine Ev.eql (λMh=>?_) (λMh=>?_)<;>try simp -implicitDefEqProofs only[sS,Nat.reduceAdd]
  ·rw[if_pos Mh] at E;refine Ev.is (nY _) ?_;refine Ev.LM (I1 hj (f:=ff) (by omega) _) λz s4 H4 e4 hj=>?_
   rw[Y.aJ e4] at E;cases z<;>simp -implicitDefEqProofs only[sS,Nat.reduceAdd]
   ·refine Ev.call (I2 hj) ?_;rintro v H5 ⟨rfl,hj⟩;obtain⟨H6,g5,g6,lC⟩:=KB.fin hd hj rfl (lI 8);simp -implicitDefEqProofs only[g5,sS,Nat.reduceAdd];exact Ev.ret (.inr ⟨by simp,_,_,path,s4,_,_,_,_,_,_,_,_,_,lC,rfl,rfl,.inr ⟨rfl,Y.Rs.qh,true,rfl,rfl,E⟩⟩)
   ·obtain⟨H6,g5,g6,lC⟩:=KB.fin hd hj rfl bQ;simp -implicitDefEqProofs only[C4,g5,sS,Nat.reduceAdd];exact Ev.ret (.inr ⟨by simp,_,_,path,s4,_,_,_,_,_,_,_,_,_,lC,rfl,rfl,.inr ⟨rfl,Y.Rs.nil,false,rfl,rfl,E⟩⟩)
  rw[if_neg Mh] at E;refine Ev.eql (λhk3=>?_) (λhk3=>?_)<;>try simp -implicitDefEqProofs only[adn,ado,sS,Nat.reduceAdd]
  ·rw[if_pos hk3] at E;refine Ev.aa5 hd hj (by omega) λx' Hz hj=>?_
   refine Ev.is (nY _) ?_
   try simp -implicitDefEqProofs only[sS,Nat.reduceAdd]
   refine Ev.ret (.inl ⟨rfl,s3.left,by omega,x',_,Y.aw zw,s3,fy,_,_,_,_,_,_,_,_,hj,rfl,by omega,.inl (by omega),nQ _,λe he=>?_,by simp;omega,E,rfl⟩)
   rcases List.mem_append.1 he with h|h
   ·exact hp e h
   ·rw[List.mem_singleton] at h;subst h;exact hnn
  ·rw[if_neg hk3] at E;obtain⟨a0,a1⟩:=KB.n7 hj;simp -implicitDefEqProofs only[a1,sS,Nat.reduceAdd];refine Ev.call (aa4 hj (ff:=ff) (by omega) (λH o hg=>hg.en) (by have:=hd.lt;omega) hp (by omega) op hnn _ _) ?_
   rintro v H5 ⟨rfl,hj⟩;obtain⟨H6,g5,g6,lC⟩:=KB.fin hd hj rfl (zh (Y.ah (Y.lH (ff+1) (og op) nn zs zw path) s3).1.1);simp -implicitDefEqProofs only[g5,sS,Nat.reduceAdd];exact Ev.ret (.inr ⟨by simp,_,_,path,_,_,_,_,_,_,_,_,_,_,lC,rfl,rfl,.inr ⟨rfl,_,_,rfl,rfl,E⟩⟩)
 ·rintro e vs Hx ⟨c1,x,path,sx,x5,aM,x6,x8,x9,bM,dx,cw,dE,hj,hc,rfl,he⟩;rcases he with⟨he,E⟩|⟨he,rr,bb,rfl,rfl,E⟩
  ·simp only at he;subst he;obtain⟨H6,g5,g6,lC⟩:=KB.fin hd hj hc bQ;simp -implicitDefEqProofs only[KU,ye,C4,g5,g6,sS,Nat.reduceAdd];exact Ev.ret (jC.of (z:=Y.Rs.nil) (ik lC) E)
  ·simp only at he;subst he;obtain⟨_,o1,_,hg⟩:=id hj;have UH:=pO i1 (zh rr) (s:=aA) Hx hg.k1.1;show Ev (λ_=>af (pS (jd Tryz.prog 47 (pv i1) Hx) Hx) λv _=>some (Value.tuple #[v,.bool bb],Hx)) _
   simp -implicitDefEqProofs only[Yh,UH,sS,Nat.reduceAdd];exact Ev.ret (jC.of (ik hj) E)
abbrev Mi (K:aa→aj→Prop)(p:Nat)(st:Y.St)(t:Y.Tr Y.Rs):Value→aa→Prop:=λv H'=>v=gu (zh (Y.ah t st).1) aA∧JX K p (Y.ah t st).2 H'
theorem Mi.of {t:Y.Tr Y.Rs}{z:Y.Rs}(hj:JX K p s1 H')(e:Y.ah t st=(z,s1)):Mi K p st t (gu (zh z) aA) H':=by unfold Mi;rw[e];exact⟨rfl,hj⟩
theorem GD {f:Nat}{a k z:Int}{s s':Y.St}(e:Y.ah (Y.nB f a k) s=(z,s')):s'.left≤s.left-1:=by
 unfold Y.nB Y.lf at e;rw[Y.bind_assoc,Y.al] at e;have h1:(Y.ah (Y.rd a) s).2.left=s.left-1:=dk rfl;have h2:=dp e;omega
theorem C8 {g f:Nat}{op:Y.Op}{n:Int}{path:List Y.En}{s s':Y.St}{z:Y.Rs×Bool}(h:s.off=false)(e:Y.ah (Y.dV g op (f+1) n path) s=(z,s')):s'.left≤s.left-1:=by
 rw[uA h,Y.al] at e;have h1:(Y.ah (Y.nB g n op.key) s).2.left≤s.left-1:=GD rfl;have h2:=dp e;omega
theorem EK {g f:Nat}{op:Y.Op}{s:Y.St}(h:s.off=true):Y.ah (Y.gn g op f) s=(Y.Rs.nil,s):=by
 cases f with
 |zero=>rfl
 |succ f=>unfold Y.gn;simp only[Y.al,bl,bH,bN,cU,cV,ne_eq,not_true_eq_false,not_false_eq_true,if_true,if_false,Bool.not_true,Bool.not_false,true_and,and_true,false_and,and_false,true_or,or_true,false_or,or_false,Bool.false_eq_true,decide_true,decide_false,h]
theorem GF {g f:Nat}{op:Y.Op}{s:Y.St}(h:s.off=false):Y.ah (Y.gn g op (f+1)) s=Y.ah (Y.dV g op g 1 [] >>= λre=>if re.2=true then pure re.1 else Y.gn g op f) s:=by
 conv=>lhs;unfold Y.gn
 simp only[Y.al,bl,bH,bN,cU,cV,ne_eq,not_true_eq_false,not_false_eq_true,if_true,if_false,Bool.not_true,Bool.not_false,true_and,and_true,false_and,and_false,true_or,or_true,false_or,or_false,Bool.false_eq_true,decide_true,decide_false,h]
theorem Pn (h:JX K p st H){ff:Nat}(Yd:st.left≤ff)(op:kf):aF (run G) 127 [pv p,jr op] H (Mi K p st (Y.gn (ff+1) (og op) (ff+1))):=by
 refine Ev.up (t:=λk=>XS (run G k) k (pv p) (jr op) H) ?_ λk=>Sg ..
 obtain⟨hK,b,hr,hk⟩:=id h;obtain⟨i0,e0⟩: ∃i,i=H.length:=⟨_,rfl⟩;obtain⟨i1,e1⟩: ∃i,i=H.length+1:=⟨_,rfl⟩;obtain⟨t,Pg,CS⟩:=gI b H.length;have hd:Yg H b p i0 i1 t:=⟨e0,e1,Pg,λi hi=>by have:=CS i hi;omega⟩
 obtain⟨H1,ga⟩: ∃z,z=H.new ⟨n6 op,39,1,false⟩:=⟨_,rfl⟩;have l1:H1.length=H.length+1:=by rw[ga,cB]
 obtain⟨H2,iD⟩: ∃z,z=H1.new ⟨rc bQ,47,1,false⟩:=⟨_,rfl⟩;have fG:JX (λH' o=>Fr H b H' o [(p:Int)]∧Cl i0 (n6 op) 39 H' o) p st H1:=by
  rw[ga];have Pl:JX (λH' o=>Fr H b H' o [(p:Int)]) p st H:=⟨bK.base (by simp),b,hr,Fr.refl _ _ _⟩
  refine Pl.nG _ _ 1 ((bK.base (by simp)).and λH o H' o' a f=>a.fr f (by simp)) λo hk f=>⟨hk.new _ _,?_⟩
  rw[e0];exact Cl.made
 have fM:JX (KB H b p i0 i1 t op (rc bQ) aA []) p st H2:=by
  rw[iD];refine fG.nG _ _ 1 (KB.eZ hd) λo hk f=>⟨hk.1.new _ _,hk.2.new,?_,.inl ⟨rfl,rfl⟩⟩
  rw[e1, ←l1];exact Cl.made
 have bx:=C3 op H;rw[←e0, ←ga] at bx;have n1:aS H1 47 1 [cv 0,.bool false,cv 0,cv 0,cv 0,aA]=(pv i1,H2):=by rw[iD,e1, ←l1];rfl
 have ik: ∀{c1:List Value} {x:Value} {path:List Y.En} {s':Y.St} {H':aa},JX (KB H b p i0 i1 t op c1 x path) p s' H'→JX K p s' H':=λhj=>hj.mono hK λo' hg=>hK _ _ _ _ hk hg.fr
 simp -implicitDefEqProofs only[XS,bx,n1,sS,Nat.reduceAdd];refine Ev.loop (k:=st.left) (λk vs Hx=>∃(sx:Y.St) (fx:Nat) (aO x6 aV x5:Value),JX (KB H b p i0 i1 t op (rc bQ) aA []) p sx Hx∧k=sx.left∧sx.left≤ff∧(sx.left+1≤fx∨sx.off=true)∧Y.ah (Y.gn (ff+1) (og op) (ff+1)) st=Y.ah (Y.gn (ff+1) (og op) fx) sx∧vs=[pv p,jr op,pv i1,aO,pv i0,x6,aV,x5])
  (λr=>∃(c1:List Value) (sx:Y.St) (aO x6 aV x5:Value),JX (KB H b p i0 i1 t op c1 aA []) p sx r.2.2∧c1.length=6∧r.2.1=[pv p,jr op,pv i1,aO,pv i0,x6,aV,x5]∧((r.1= .exit 0∧Y.ah (Y.gn (ff+1) (og op) (ff+1)) st=(Y.Rs.nil,sx))∨(r.1= .ret∧∃rr,c1=rc (zh rr)∧Y.ah (Y.gn (ff+1) (og op) (ff+1)) st=(rr,sx))))
  ⟨st,ff+1,_,_,_,_,fM,rfl,Yd,.inl (by omega),rfl,rfl⟩ ?_ ?_
 ·rintro k vs Hx ⟨sx,fx,aO,x6,aV,x5,hj,rfl,hl,pY,E,rfl⟩;obtain⟨a0,a1⟩:=KB.n7 hj;simp -implicitDefEqProofs only[Lq,yH,sS,Nat.reduceAdd];refine Ev.nX hj (λhq=>?_) (λhq=>?_)<;>try simp -implicitDefEqProofs only[a1,sS,Nat.reduceAdd]
  ·rw[EK hq] at E;exact Ev.ret (.inr ⟨by simp,_,sx,_,_,_,_,hj,rfl,rfl,.inl ⟨rfl,E⟩⟩)
  have l4:=iN hq;have O8:sx.left+1≤fx:=pY.resolve_right (by rw[hq];simp)
  obtain⟨fy,rfl⟩: ∃fy,fx=fy+1:=⟨fx-1,by omega⟩
  rw[GF hq] at E;refine Ev.call (Mg hj (ff:=ff) hl op) ?_;rintro v H5 ⟨rfl,hj⟩;generalize hR:Y.ah (Y.dV (ff+1) (og op) (ff+1) 1 []) sx=R at hj
  obtain⟨⟨rr,bb⟩,s2⟩:=R;have m2:=C8 hq hR;rw[Y.aJ hR] at E;simp only at hj;obtain⟨H6,Dk⟩: ∃z,z=H5.new ⟨rc bQ,47,1,false⟩:=⟨_,rfl⟩;have n2:aS H5 47 1 [cv 0,.bool false,cv 0,cv 0,cv 0,aA]=(pv H5.length,H6):=by rw[Dk];rfl
  have oa:JX (λH' o=>KB H b p i0 i1 t op (rc bQ) aA [] H' o∧Cl H5.length (rc bQ) 47 H' o∧i1<H5.length) p s2 H6:=by
   rw[Dk];refine hj.nG _ _ 1 ((KB.eZ hd).and λH o H' o' a f=>⟨a.1.fr f (by simp),a.2⟩) λo hk f=>⟨KB.eZ hd _ _ _ _ hk (f.wk (by simp)),Cl.made,ar hk.k1.1⟩
  obtain⟨_,o6,hr6,hg6,hc6,hi6⟩:=id oa;have kq:=tV H5.length (zh rr) (s:=aA) rfl H6 hc6.1 rfl;obtain⟨H7,Qz⟩: ∃z,z=H6.put H5.length ⟨rc (zh rr),47,1,false⟩:=⟨_,rfl⟩;rw[←Qz] at kq;have C0:JX (λH' o=>KB H b p i0 i1 t op (rc bQ) aA [] H' o∧Cl H5.length (rc (zh rr)) 47 H' o∧i1<H5.length) p s2 H7:=by
   rw[Qz];refine oa.tY (λo hg=>hg.2.1) ((KB.eZ hd).and λH o H' o' a f=>⟨a.1.fr f (by simp),a.2⟩) λo hg=>⟨⟨hg.1.fr.put λhh=>by omega,hg.1.k0.put (by omega),hg.1.k1.put (by omega),.inl ⟨rfl,rfl⟩⟩,hg.2.1.self,hg.2.2⟩
  have UP:JX (KB H b p i0 i1 t op (rc bQ) aA []) p s2 H7:=C0.mono (KB.eZ hd) λo a=>a.1
  obtain⟨_,o7,hr7,hg7,hc7,hi7⟩:=id C0;have uL:=pO H5.length (zh rr) (s:=aA) H7 hc7.1;obtain⟨H8,g5,g6,lC⟩:=KB.fin hd UP rfl (zh rr);simp -implicitDefEqProofs only[n2,kq,sS,Nat.reduceAdd];cases bb<;>simp -implicitDefEqProofs only[uL,g5,sS,Nat.reduceAdd]
  ·exact Ev.ret (.inl ⟨rfl,s2.left,by omega,s2,fy,_,_,_,_,UP,rfl,by omega,.inl (by omega),by rw[E];rfl,rfl⟩)
  ·exact Ev.ret (.inr ⟨by simp,_,s2,_,_,_,_,lC,rfl,rfl,.inr ⟨rfl,rr,rfl,by rw[E];rfl⟩⟩)
 ·rintro e vs Hx ⟨c1,sx,aO,x6,aV,x5,hj,hc,rfl,he⟩;rcases he with⟨he,E⟩|⟨he,rr,rfl,E⟩
  ·simp only at he;subst he;obtain⟨H6,g5,g6,lC⟩:=KB.fin hd hj hc bQ;simp -implicitDefEqProofs only[Ls,yI,C4,g5,g6,sS,Nat.reduceAdd];exact Ev.ret (Mi.of (z:=Y.Rs.nil) (ik lC) E)
  ·simp only at he;subst he;obtain⟨_,o1,_,hg⟩:=id hj;have UH:=pO i1 (zh rr) (s:=aA) Hx hg.k1.1;show Ev (λ_=>af (pS (jd Tryz.prog 47 (pv i1) Hx) Hx) λv _=>some (v,Hx)) _
   simp -implicitDefEqProofs only[Yh,UH,sS,Nat.reduceAdd];exact Ev.ret (Mi.of (ik hj) E)
end
end Go.Proofs.YtgfgglponbmgmaaGreat.Fun
end
