/- Texts of the proof of dcssPlays_holds, put together by a small program of ours (names shortened, spaces taken out). No condition beyond the given statement. -/
import Derived.Test.YtgfgglponbmgmaaGreatDCP10
import Derived.Test.YtgfgglponbmgmaaGreatDCP13
import Derived.Test.YtgfgglponbmgmaaGreatDCP16
import Derived.Test.YtgfgglponbmgmaaGreatDCP18
import Derived.Test.YtgfgglponbmgmaaGreatDCP28
import Derived.Test.YtgfgglponbmgmaaGreatDCP15
set_option linter.unusedVariables false
set_option linter.unusedSimpArgs false
set_option linter.unnecessarySimpa false
noncomputable section
section
namespace Go.Proofs.YtgfgglponbmgmaaGreat.Fun
open Go Go.RowKit Go.Proofs.YtgfgglponbmgmaaGreatA.Am
set_option maxRecDepth 10000
section
open Go.Proofs.YtgfgglponbmgmaaGreatA
variable {G:ae} {H H':aa} {o o':aj} {p c n i:Nat} {K K':aa→aj→Prop} {t q:Int} {x:Value} {path:List Y.En} {st No s1:Y.St} {α β:Type} {cs:List Value} {T:TypeId}
abbrev zz (r:Y.Rs):eO:=⟨r.ET,r.found,r.key,r.value,0,[]⟩
abbrev jG (K:aa→aj→Prop)(p:Nat)(st:Y.St)(t:Y.Tr (Y.Rs×Bool)):Value→aa→Prop:=λv H'=>v= .tuple #[gu (zz (Y.ah t st).1.1) aA,.bool (Y.ah t st).1.2]∧JX K p (Y.ah t st).2 H'
theorem jG.of {t:Y.Tr (Y.Rs×Bool)}{z:Y.Rs}{b:Bool}(hj:JX K p s1 H')(e:Y.ah t st=((z,b),s1)):jG K p st t (.tuple #[gu (zz z) aA,.bool b]) H':=by unfold jG;rw[e];exact⟨rfl,hj⟩
section
variable {B:aa} {b:aj} {i0 i1 i2:Nat} {op:ki} {c1:List Value} {r2:eO}
theorem KL.Qe (h:JX (KL B b p i0 i1 i2 op c1 r2) p st H):aq (.pointer (some ⟨i0,0,none⟩)) H=some (cv op.kind)∧aq (.pointer (some ⟨i0,1,none⟩)) H=some (cv op.key)∧df 3 (pv i0) H=some (jw op)∧aq (.pointer (some ⟨i2,1,none⟩)) H=some (.bool r2.found)∧df 6 (pv i2) H=some (gu r2 aA):=by
 obtain⟨_,o,_,hg⟩:=h;exact⟨an i0 0 _ hg.k0.1,an i0 1 _ hg.k0.1,Ri hg.k0.1,an i2 1 _ hg.k2.1,pL _ _ _ hg.k2.1⟩
theorem KL.Zj (hd:KLd B i0 i1 i2)(h:JX (KL B b p i0 i1 i2 op c1 r2) p st H)(hl:c1.length=6)(r:eO): ∃H2,bD 6 (pv i1) (gu r aA) H=some (undef,H2)∧df 6 (pv i1) H2=some (gu r aA)∧JX (KL B b p i0 i1 i2 op (rc r) r2) p st H2:=by
 obtain⟨_,o,hr,hg⟩:=id h;obtain⟨e0,e1,e2⟩:=hd;refine⟨_,uc i1 r (s:=aA) rfl H hg.k1.1 hl,pL _ _ _ (aH hg.k1.1),h.uf (λo hg=>hg.k1) KL.fe λo hg=>⟨hg.fr.put λhh=>by omega,hg.k0.put (by omega),hg.k1.self,hg.k2.put (by omega)⟩⟩
theorem KL.VL (hd:KLd B i0 i1 i2)(h:JX (KL B b p i0 i1 i2 op c1 r2) p st H)(r:eO): ∃H2,bD 6 (pv i2) (gu r aA) H=some (undef,H2)∧JX (KL B b p i0 i1 i2 op c1 r) p st H2:=by
 obtain⟨_,o,hr,hg⟩:=id h;obtain⟨e0,e1,e2⟩:=hd;refine⟨_,uc i2 r (s:=aA) rfl H hg.k2.1 rfl,h.uf (λo hg=>hg.k2) KL.fe λo hg=>⟨hg.fr.put λhh=>by omega,hg.k0.put (by omega),hg.k1.put (by omega),hg.k2.self⟩⟩
end
theorem abA (h:JX K p st H){ff:Nat}(Zi:st.left≤ff)(hx: ∀H o,K H o→Fz H o q x path)(hq:q≠(p:Int))(hp: ∀e∈path, -9223372036854775808≤e.node∧e.node≤65536)(hn:path.length≤2147483648)(op:ki){nn:Int}(hnn: -9223372036854775808≤nn∧nn≤65536)(s w:Int):
  aF (run G) 167 [pv p,jw op,cv nn,cv s,cv w,x] H (jG K p st (Y.lI (ff+1) (oa op) nn s w path)):=by
 have wnn:IntKind.i64.wrap (nn+2)=nn+2:=gz (by omega)
 refine Ev.up (t:=λk=>XD (run G k) k (pv p) (jw op) (cv nn) (cv s) (cv w) x H) ?_ λk=>Si ..
 obtain⟨hK,b,hr,hk⟩:=id h;have hxB:=hx _ _ hk;have hxs: ∀{H':aa} {o':aj},Fr H b H' o' [(p:Int)]→Fz H' o' q x path:=λf=>hxB.fr f (by simpa using hq)
 obtain⟨i0,e0⟩: ∃i,i=H.length:=⟨_,rfl⟩;obtain⟨i1,e1⟩: ∃i,i=H.length+1:=⟨_,rfl⟩;obtain⟨i2,e2⟩: ∃i,i=H.length+2:=⟨_,rfl⟩;have hd:KLd H i0 i1 i2:=⟨e0,e1,e2⟩;obtain⟨H1,fY⟩: ∃z,z=H.new ⟨n6 op,39,1,false⟩:=⟨_,rfl⟩;have l1:H1.length=H.length+1:=by rw[fY,cC]
 obtain⟨H2,iB⟩: ∃z,z=H1.new ⟨rc bS,47,1,false⟩:=⟨_,rfl⟩;have l2:H2.length=H.length+2:=by rw[iB,cC,l1]
 obtain⟨H3,mC⟩: ∃z,z=H2.new ⟨rc bS,47,1,false⟩:=⟨_,rfl⟩;have fH:JX (λH' o=>Fr H b H' o [(p:Int)]∧Cl i0 (n6 op) 39 H' o) p st H1:=by
  rw[fY];have Qf:JX (λH' o=>Fr H b H' o [(p:Int)]) p st H:=⟨bL.base (by simp),b,hr,Fr.refl _ _ _⟩
  refine Qf.nG _ _ 1 ((bL.base (by simp)).and λH o H' o' a f=>a.fr f (by simp)) λo hk f=>⟨hk.new _ _,?_⟩
  rw[e0];exact Cl.made
 have fI:JX (λH' o=>(Fr H b H' o [(p:Int)]∧Cl i0 (n6 op) 39 H' o)∧Cl i1 (rc bS) 47 H' o) p st H2:=by
  rw[iB];refine fH.nG _ _ 1 (fH.1.and λH o H' o' a f=>a.fr f (by simp)) λo hk f=>⟨⟨hk.1.new _ _,hk.2.new⟩,?_⟩
  rw[e1, ←l1];exact Cl.made
 have gE:JX (KL H b p i0 i1 i2 op (rc bS) bS) p st H3:=by
  rw[mC];refine fI.nG _ _ 1 KL.fe λo hk f=>⟨hk.1.1.new _ _,hk.1.2.new,hk.2.new,?_⟩
  rw[e2, ←l2];exact Cl.made
 obtain⟨H4,g4,jc⟩:=KL.VL hd gE bS;have bx:=Dd op H;rw[←e0, ←fY] at bx;have n1:aS H1 47 1 [cv 0,.bool false,cv 0,cv 0,cv 0,aA]=(pv i1,H2):=by rw[iB,e1, ←l1];rfl
 have n2:aS H2 47 1 [cv 0,.bool false,cv 0,cv 0,cv 0,aA]=(pv i2,H3):=by rw[mC,e2, ←l2];rfl
 have il: ∀{c1:List Value} {r2:eO} {s':Y.St} {H':aa},JX (KL H b p i0 i1 i2 op c1 r2) p s' H'→JX K p s' H':=λhj=>hj.mono hK λo' hg=>hK _ _ _ _ hk hg.fr
 have J2: ∀{s2:Y.St} {H1:aa} {res:Y.Rs} (leaf:Bool) (q z19:Int) (aG bQ bR jb aZ lE bf uA kZ iZ:Value),JX (KL H b p i0 i1 i2 op (rc bS) (zz res)) p s2 H1→Y.ah (Y.lI (ff+1) (oa op) nn s w path) st=((res,decide (z19=1)),s2)→Ev (λk=>ph (run G k) k [pv p,jw op,cv nn,cv s,cv w,x,pv i1,aG,.bool leaf,bQ,cv q,pv i0,bR,pv i2,jb,aZ,lE,bf,uA,cv z19,kZ,iZ] H1) λr=>jG K p st (Y.lI (ff+1) (oa op) nn s w path) r.1 r.2:=by
  intro s2 H1 res leaf q z19 aG bQ bR jb aZ lE bf uA kZ iZ hj E;obtain⟨a0,a1,a2,a3,a4⟩:=KL.Qe hj;obtain⟨H5,g5,g6,lJ⟩:=KL.Zj hd hj rfl (zz res);simp -implicitDefEqProofs only[Lf,xS,a4,sS,Nat.reduceAdd];refine Ev.eql (λhq=>?_) (λhq=>?_)<;>try simp -implicitDefEqProofs only[g5,g6,sS,Nat.reduceAdd]
  ·exact Ev.ret (jG.of (il lJ) (by rw[E];simp[hq]))
  ·exact Ev.ret (jG.of (il lJ) (by rw[E];simp[hq]))
 have hnm: ∀{s2:Y.St} {H1:aa} {r2:eO},JX (KL H b p i0 i1 i2 op (rc bS) r2) p s2 H1→Y.ah (Y.lI (ff+1) (oa op) nn s w path) st=((Y.Rs.qd,true),s2)→Ev (λk=>af (run G k 166 [] H1) λy Hy=>af (bD 6 (pv i1) y Hy) λ_ Hy=>af (pS (df 6 (pv i1) Hy) Hy) λr0 _=>some (Value.tuple #[r0,.bool true],Hy)) λr=>jG K p st (Y.lI (ff+1) (oa op) nn s w path) r.1 r.2:=by
  intro s2 H1 r2 hj E;refine Ev.call (JB hj) ?_;rintro v H5 ⟨rfl,hj⟩;obtain⟨H6,g5,g6,lJ⟩:=KL.Zj hd hj rfl (lK 8);simp -implicitDefEqProofs only[g5,g6,sS,Nat.reduceAdd];exact Ev.ret (jG.of (z:=Y.Rs.qd) (il lJ) E)
 have J1: ∀{s2:Y.St} {H1:aa} {res:Y.Rs} (leaf:Bool) (q o:Int) (aG bQ bR jb aZ lE bf uA kZ iZ:Value),JX (KL H b p i0 i1 i2 op (rc bS) (zz res)) p s2 H1→s2.left≤ff→Y.ah (Y.lI (ff+1) (oa op) nn s w path) st=Y.ah (if o=3 then pure (Y.Rs.qd,true) else if o=1∧((oa op).kind≠2∨res.found=false) then Y.dq (ff+1) none path >>= λ_=>pure (res,true) else pure (res,decide (o=1))) s2→Ev (λk=>nr (run G k) k [pv p,jw op,cv nn,cv s,cv w,x,pv i1,aG,.bool leaf,bQ,cv q,pv i0,bR,pv i2,jb,aZ,lE,bf,uA,cv o,kZ,iZ] H1) λr=>jG K p st (Y.lI (ff+1) (oa op) nn s w path) r.1 r.2:=by
  intro s2 H1 res leaf q o aG bQ bR jb aZ lE bf uA kZ iZ hj hl E;obtain⟨a0,a1,a2,a3,a4⟩:=KL.Qe hj;simp -implicitDefEqProofs only[Lg,xT,sS,Nat.reduceAdd];have Zk:o=1→Y.ah (Y.lI (ff+1) (oa op) nn s w path) st=Y.ah (Y.dq (ff+1) none path >>= λ_=>pure (res,true)) s2→∀(kZ iZ:Value),Ev (λk=>af (run G k 126 [pv p,x] H1) λ_ Hy=>ph (run G k) k [pv p,jw op,cv nn,cv s,cv w,x,pv i1,aG,.bool leaf,bQ,cv q,pv i0,bR,pv i2,jb,aZ,lE,bf,uA,cv o,kZ,iZ] Hy) λr=>jG K p st (Y.lI (ff+1) (oa op) nn s w path) r.1 r.2:=by
   intro ho E kZ iZ;refine Ev.unX (TK hj (ff:=ff) hl (λH o hg=>hxs hg.fr) hp hn) λv u s3 H3 e3 gE=>?_
   rw[Y.aI e3] at E;refine J2 _ _ _ _ _ _ _ _ _ _ _ _ _ gE ?_;rw[E];simp[ho,bK]
  refine Ev.eql (λh3=>?_) (λh3=>?_)<;>try simp -implicitDefEqProofs only[sS,Nat.reduceAdd]
  ·exact hnm hj (by rw[E,if_pos h3];rfl)
  rw[if_neg h3] at E;refine Ev.eql (λh1=>?_) (λh1=>?_)<;>try simp -implicitDefEqProofs only[a0,sS,Nat.reduceAdd]
  ·refine Ev.neq (λhk=>?_) (λhk=>?_)<;>try simp -implicitDefEqProofs only[a3,sS,Nat.reduceAdd]
   ·rw[if_pos ⟨h1,.inl hk⟩] at E;exact Zk h1 E _ _
   ·cases hf:res.found<;>simp -implicitDefEqProofs only[sS,Nat.reduceAdd]
    ·rw[if_pos ⟨h1,.inr hf⟩] at E;exact Zk h1 E _ _
    ·rw[if_neg (by simp[hk,hf])] at E
     exact J2 _ _ _ _ _ _ _ _ _ _ _ _ _ hj (by rw[E];rfl)
  ·rw[if_neg (by simp[h1])] at E
   exact J2 _ _ _ _ _ _ _ _ _ _ _ _ _ hj (by rw[E];rfl)
 have J0: ∀{s2:Y.St} {H1:aa} {res:Y.Rs} (leaf:Bool) (q:Int) (aG bQ bR jb aZ lE bf uA bB kZ iZ:Value),JX (KL H b p i0 i1 i2 op (rc bS) (zz res)) p s2 H1→s2.left≤ff→Y.ah (Y.lI (ff+1) (oa op) nn s w path) st=Y.ah (Y.zg (ff+1) (oa op) nn s w q leaf path res) s2→Ev (λk=>pn (run G k) k [pv p,jw op,cv nn,cv s,cv w,x,pv i1,aG,.bool leaf,bQ,cv q,pv i0,bR,pv i2,jb,aZ,lE,bf,uA,bB,kZ,iZ] H1) λr=>jG K p st (Y.lI (ff+1) (oa op) nn s w path) r.1 r.2:=by
  intro s2 H1 res leaf q aG bQ bR jb aZ lE bf uA bB kZ iZ hj hl E;obtain⟨a0,a1,a2,a3,a4⟩:=KL.Qe hj;obtain⟨H5,g5,g6,lJ⟩:=KL.Zj hd hj rfl (zz res);have E2:Y.ah (Y.lI (ff+1) (oa op) nn s w path) st=Y.ah (if s2.off=true∨(op.kind=1∧res.found=true)∨(op.kind=3∧res.found=false) then pure (res,true) else Y.mu (oa op) w q leaf res.found >>= λxo=>if xo.2=false then pure (Y.Rs.qd,true) else Y.Tr.rc 0 (Y.qc (nn+2) s w xo.1 >>= λo=>Y.Tr.ld (if o=3 then pure (Y.Rs.qd,true) else if o=1∧((oa op).kind≠2∨res.found=false) then Y.dq (ff+1) none path >>= λ_=>pure (res,true) else pure (res,decide (o=1))))) s2:=by
   rw[E];unfold Y.zg;simp only[Y.al,bo,bK,bO,cS,cT,ne_eq,not_true_eq_false,not_false_eq_true,if_true,if_false,Bool.not_true,Bool.not_false,true_and,and_true,false_and,and_false,true_or,or_true,false_or,or_false,Bool.false_eq_true,decide_true,decide_false];rfl
  have uZ:(s2.off=true∨(op.kind=1∧res.found=true)∨(op.kind=3∧res.found=false))→Ev (λk=>af (some (gu (zz res) aA,H1)) λy Hy=>af (bD 6 (pv i1) y Hy) λ_ Hy=>af (pS (df 6 (pv i1) Hy) Hy) λr0 _=>some (Value.tuple #[r0,.bool true],Hy)) λr=>jG K p st (Y.lI (ff+1) (oa op) nn s w path) r.1 r.2:=by
   intro hc;simp -implicitDefEqProofs only[g5,g6,sS,Nat.reduceAdd];exact Ev.ret (jG.of (il lJ) (by rw[E2,if_pos hc];rfl))
  simp -implicitDefEqProofs only[g5,g6,sS,Nat.reduceAdd] at uZ;have Qg: ¬(s2.off=true∨(op.kind=1∧res.found=true)∨(op.kind=3∧res.found=false))→∀(jb:Value),Ev (λk=>af (run G k 169 [pv p,jw op,cv w,cv q,.bool leaf,.bool res.found] H1) λy Hy=>af (cp 0 y Hy) λdv Hy=>af (cp 1 y Hy) λdL Hy=>af (pS (ik .not dL) Hy) λef Hy=>aT ef (af (run G k 166 [] Hy) λy Hy=>af (bD 6 (pv i1) y Hy) λ_ Hy=>af (pS (df 6 (pv i1) Hy) Hy) λr0 _=>some (Value.tuple #[r0,.bool true],Hy))
    (af (bD 1 (.pointer (some ⟨p,8,none⟩)) (cv 0) Hy) λ_ Hy=>af (run G k 116 [pv p,cv (IntKind.i64.wrap (nn+2)),cv s,cv w,dv] Hy) λjk Hy=>af (pS (aq (.pointer (some ⟨p,8,none⟩)) Hy) Hy) λvr Hy=>af (pS (ai Tryz.prog .gtr 3 vr (cv 0)) Hy) λw9 Hy=>aT w9 (af (pS (aq (.pointer (some ⟨p,8,none⟩)) Hy) Hy) λqB Hy=>af (bD 1 (.pointer (some ⟨p,9,none⟩)) qB Hy) λ_ Hy=>nr (run G k) k [pv p,jw op,cv nn,cv s,cv w,x,pv i1,aG,.bool leaf,bQ,cv q,pv i0,bR,pv i2,jb,dL,ef,dv,w9,jk,kZ,iZ] Hy)
     (nr (run G k) k [pv p,jw op,cv nn,cv s,cv w,x,pv i1,aG,.bool leaf,bQ,cv q,pv i0,bR,pv i2,jb,dL,ef,dv,w9,jk,kZ,iZ] Hy))) λr=>jG K p st (Y.lI (ff+1) (oa op) nn s w path) r.1 r.2:=by
   intro hc jb;rw[if_neg hc] at E2;refine Ev.EV (TM hj _ _ _ _ _) λz zb s3 H3 e3 hj=>?_
   have m3:=dt e3;rw[Y.aI e3] at E2;cases zb<;>simp -implicitDefEqProofs only[sS,Nat.reduceAdd]
   ·exact hnm hj (by rw[E2];rfl)
   rw[if_neg (by simp),cS] at E2
   refine Ev.Vt hj λH4 hj=>?_
   rw[wnn];refine Ev.eY (C4 hj _ _ _ _) λo s5 H5 e5 hj=>?_
   have m5:=dt e5;have m6:({s3 with gG:=0}:Y.St).left=s3.left:=rfl
   rw[Y.aI e5,cT] at E2;refine Ev.Vu hj ?_;refine Ev.gtr (λhq=>?_) (λhq=>?_)<;>try simp -implicitDefEqProofs only[sS,Nat.reduceAdd]
   ·rw[if_pos hq] at E2;refine Ev.Vu hj ?_;refine Ev.aa7 hj λH6 hj=>?_
    exact J1 _ _ _ _ _ _ _ _ _ _ _ _ _ hj (by show s5.left≤ff;omega) E2
   ·rw[if_neg hq] at E2;exact J1 _ _ _ _ _ _ _ _ _ _ _ _ _ hj (by omega) E2
  simp -implicitDefEqProofs only[Lh,xU,sS,Nat.reduceAdd];refine Ev.n3 hj (λhq=>?_) (λhq=>?_)<;>try simp -implicitDefEqProofs only[a0,sS,Nat.reduceAdd]
  ·(try simp -implicitDefEqProofs only[a4,g5,g6,sS,Nat.reduceAdd]);exact uZ (.inl hq)
  refine Ev.eql (λqv=>?_) (λqv=>?_)<;>try simp -implicitDefEqProofs only[a0,a3,sS,Nat.reduceAdd]
  ·cases hf:res.found<;>simp -implicitDefEqProofs only[a0,sS,Nat.reduceAdd]
   ·refine Ev.eql (λkE=>?_) (λkE=>?_)<;>try simp -implicitDefEqProofs only[a0,a2,a3,a4,hf,g5,g6,sS,Nat.reduceAdd]
    ·exact uZ (.inr (.inr ⟨kE,hf⟩))
    ·have:=Qg (by simp[hq,qv,hf,kE])
     rw[hf] at this;exact this _
   ·(try simp -implicitDefEqProofs only[a4,g5,g6,sS,Nat.reduceAdd]);exact uZ (.inr (.inl ⟨qv,hf⟩))
  ·refine Ev.eql (λkE=>?_) (λkE=>?_)<;>try simp -implicitDefEqProofs only[a0,a2,a3,a4,sS,Nat.reduceAdd]
   ·cases hf:res.found<;>simp -implicitDefEqProofs only[a2,a3,a4,hf,g5,g6,sS,Nat.reduceAdd]
    ·exact uZ (.inr (.inr ⟨kE,hf⟩))
    ·have:=Qg (by simp[hq,qv,hf])
     rw[hf] at this;exact this _
   ·exact Qg (by simp[hq,qv,kE]) _
 have a0:=KL.Qe jc;simp -implicitDefEqProofs only[XD,bx,n1,De,n2,g4,sS,Nat.reduceAdd];refine Ev.is (js _) ?_
 try simp -implicitDefEqProofs only[sS,Nat.reduceAdd]
 refine Ev.eql (λqv=>?_) (λqv=>?_)<;>try simp -implicitDefEqProofs only[sS,Nat.reduceAdd]
 ·refine Ev.is (n5 _) ?_;refine Ev.eY (de jc _) λzq s2 Hz e2 hj=>?_
  have m2:=dt e2;obtain⟨a0,a1,a2,a3,a4⟩:=KL.Qe hj;simp -implicitDefEqProofs only[a1,sS,Nat.reduceAdd];refine Ev.eql (λkE=>?_) (λkE=>?_)<;>try simp -implicitDefEqProofs only[sS,Nat.reduceAdd]
  ·refine Ev.is (n5 _) ?_;simp -implicitDefEqProofs only[sS,Nat.reduceAdd,Np _ (j:=1) (by omega)]
   refine Ev.eY (de hj _) λzv s3 Hz e3 hj=>?_
   have m3:=dt e3;obtain⟨H6,g6,n9⟩:=KL.VL hd hj (MM (zq,zv,true));simp -implicitDefEqProofs only[adb,Zh,g6,sS,Nat.reduceAdd];refine J0 (res:=⟨0,true,zq,zv⟩) _ _ _ _ _ _ _ _ _ _ _ _ _ n9 (by omega) ?_
   unfold Y.lI;rw[if_pos qv,Y.aI e2,if_pos kE,Y.aI e3]
  ·refine J0 (res:=Y.Rs.nil) _ _ _ _ _ _ _ _ _ _ _ _ _ hj (by omega) ?_
   unfold Y.lI;rw[if_pos qv,Y.aI e2,if_neg kE]
 ·refine J0 (res:=Y.Rs.nil) _ _ _ _ _ _ _ _ _ _ _ _ _ jc Zi ?_;unfold Y.lI;rw[if_neg qv]
end
section
variable {G:ae} {H H':aa} {o o':aj} {p m c:Nat} {K K':aa→aj→Prop} {t q:Int} {x:Value} {l:PL} {n i:Nat} {cs:List Value} {T:TypeId}
structure Zl (B:aa) (b:aj) (p i0 i1:Nat) (t:Int):Prop where
 e0:i0=B.length
 e1:i1=B.length+1
 lt:t< -100
 ft: ∀i,i<B.length→b i≠t
section
variable {B:aa} {b:aj} {i0 i1:Nat} {op:ki} {c1:List Value}
theorem Zl.ap (h:Zl B b p i0 i1 t):oS t p:=⟨by have:=h.lt;omega,by have:=h.lt;omega,by have:=h.lt;omega⟩
variable {α:Type} {k:Nat→Value→aa→Option α} {Q:α→Prop} {a1 a2 a3:Int} {ty:TypeId}
end
theorem ade (a b c:Int):aE Tryz.prog 37 [(0,cv a),(1,cv b),(2,cv c)]=some (.agg #[cv a,cv b,cv c]):=by kernel_rfl
theorem adf (a b c:Int)(H:aa):ay Tryz.prog 35 1 [(0,.agg #[cv a,cv b,cv c])] H=some (.slice (some ⟨H.length,0,none⟩) 1 1,H.new ⟨[cv a,cv b,cv c],37,3,false⟩):=by kernel_rfl
theorem Zm (i:Nat)(H:aa):jf Tryz.prog 47 (pv i) H=df 6 (pv i) H:=by kernel_rfl
end
section
open Go.Proofs.YtgfgglponbmgmaaGreatA
variable {G:ae} {H H':aa} {o o':aj} {p c n i:Nat} {K K':aa→aj→Prop} {t q:Int} {x:Value} {path:List Y.En} {st No s1:Y.St} {α β:Type} {cs:List Value} {T:TypeId}
structure KB (B:aa) (b:aj) (p i0 i1:Nat) (t:Int) (op:ki) (c1:List Value) (x:Value) (path:List Y.En) (H:aa) (o:aj):Prop where
 fr:Fr B b H o [(p:Int)]
 k0:Cl i0 (n6 op) 39 H o
 k1:Cl i1 c1 47 H o
 en:Fz H o t x path
section
variable {B:aa} {b:aj} {i0 i1:Nat} {op:ki} {c1:List Value}
theorem KB.fe (hd:Zl B b p i0 i1 t):bL [(p:Int)] (KB B b p i0 i1 t op c1 x path):=λH o H' o' h f=>⟨h.fr.tr f,h.k0.fr f (by simp),h.k1.fr f (by simp),h.en.fr f (by have:=hd.lt;simp;omega)⟩
theorem KB.n7 (h:JX (KB B b p i0 i1 t op c1 x path) p st H):aq (.pointer (some ⟨i0,1,none⟩)) H=some (cv op.key)∧df 3 (pv i0) H=some (jw op):=by
 obtain⟨_,o,_,hg⟩:=h;exact⟨an i0 1 _ hg.k0.1,Ri hg.k0.1⟩
theorem KB.fin (hd:Zl B b p i0 i1 t)(h:JX (KB B b p i0 i1 t op c1 x path) p st H)(hl:c1.length=6)(r:eO): ∃H2,bD 6 (pv i1) (gu r aA) H=some (undef,H2)∧df 6 (pv i1) H2=some (gu r aA)∧JX (KB B b p i0 i1 t op (rc r) x path) p st H2:=by
 obtain⟨_,o,hr,hg⟩:=id h;obtain⟨e0,e1,e2,e3⟩:=id hd;refine⟨_,uc i1 r (s:=aA) rfl H hg.k1.1 hl,pL _ _ _ (aH hg.k1.1),h.uf (λo hg=>hg.k1) (KB.fe hd) λo hg=>⟨hg.fr.put λhh=>by omega,hg.k0.put (by omega),hg.k1.self,hg.en.fr ((Fr.refl H o [-9]).put λ_=>by simp[hg.k1.2]) (by simp;omega)⟩⟩
variable {k:Nat→Value→aa→Option α} {Q:α→Prop} {a1 a2 a3:Int} {ty:TypeId}
theorem Ev.abB (hd:Zl B b p i0 i1 t)(h:JX (KB B b p i0 i1 t op c1 x path) p st H)(hb:path.length+1≤4294967296)(hk: ∀x' H',JX (KB B b p i0 i1 t op c1 x' (path++[⟨a1,a2,a3⟩])) p st H'→Ev (λn=>k n x' H') Q):
  Ev (λn=>af (dj T 3 24 x (.slice (some ⟨H.length,0,none⟩) 1 1) (H.new ⟨[cv a1,cv a2,cv a3],ty,3,false⟩)) (k n)) Q:=by
 obtain⟨_,o,hr,hg⟩:=h;obtain⟨x',H2,o2,e,s2,f2⟩:=Fz.app T ty hg.en ⟨a1,a2,a3⟩ hb;rw[e];have ha:=hd.ap;have gF:=hd.lt;refine hk x' H2 ⟨KB.fe hd,o2,hr.fr f2 ?_ ?_ ?_,iL (hg.fr.trans f2 (rs:=[t,(p:Int)]) (by simp) (by simp)) hd.ft,hg.k0.fr f2 ?_,hg.k1.fr f2 ?_,s2⟩
 ·simp;omega
 ·simp;omega
 ·simp;omega
 ·simp;omega
 ·simp;omega
end
theorem Dh {g f:Nat}{op:Y.Op}{n:Int}{path:List Y.En}{s:Y.St}(h:s.off=true):Y.ah (Y.dV g op f n path) s=((Y.Rs.nil,true),s):=by
 cases f with
 |zero=>rfl
 |succ f=>unfold Y.dV;simp only[Y.al,bo,bK,bO,cS,cT,ne_eq,not_true_eq_false,not_false_eq_true,if_true,if_false,Bool.not_true,Bool.not_false,true_and,and_true,false_and,and_false,true_or,or_true,false_or,or_false,Bool.false_eq_true,decide_true,decide_false,h]
theorem uK {g f:Nat}{op:Y.Op}{n:Int}{path:List Y.En}{s:Y.St}(h:s.off=false):Y.ah (Y.dV g op (f+1) n path) s=Y.ah (Y.nC g n op.key >>= λs=>Y.kD g s >>= λw=>if Y.kd w=4 then Y.hX g (Y.aw w) >>= λok=>(if ok=false then pure (Y.Rs.qd,true) else pure (Y.Rs.nil,false)) else if Y.kd w=3 then Y.dV g op f (Y.aw w) (path++[⟨n,s,w⟩]) else Y.lI g op n s w path) s:=by
 conv=>lhs;unfold Y.dV
 simp only[Y.al,bo,bK,bO,cS,cT,ne_eq,not_true_eq_false,not_false_eq_true,if_true,if_false,Bool.not_true,Bool.not_false,true_and,and_true,false_and,and_false,true_or,or_true,false_or,or_false,Bool.false_eq_true,decide_true,decide_false,h]
theorem MR (h:JX K p st H){ff:Nat}(Zi:st.left≤ff)(op:ki):aF (run G) 156 [pv p,jw op] H (jG K p st (Y.dV (ff+1) (oa op) (ff+1) 1 [])):=by
 refine Ev.up (t:=λk=>Ya (run G k) k (pv p) (jw op) H) ?_ λk=>SB ..
 have lst:=h.left;obtain⟨hK,b,hr,hk⟩:=id h;obtain⟨i0,e0⟩: ∃i,i=H.length:=⟨_,rfl⟩;obtain⟨i1,e1⟩: ∃i,i=H.length+1:=⟨_,rfl⟩;obtain⟨t,Qb,C2⟩:=gH b H.length;have hd:Zl H b p i0 i1 t:=⟨e0,e1,Qb,λi hi=>by have:=C2 i hi;omega⟩
 obtain⟨H1,fY⟩: ∃z,z=H.new ⟨n6 op,39,1,false⟩:=⟨_,rfl⟩;have l1:H1.length=H.length+1:=by rw[fY,cC]
 obtain⟨H2,iB⟩: ∃z,z=H1.new ⟨rc bS,47,1,false⟩:=⟨_,rfl⟩;have fH:JX (λH' o=>Fr H b H' o [(p:Int)]∧Cl i0 (n6 op) 39 H' o) p st H1:=by
  rw[fY];have Qf:JX (λH' o=>Fr H b H' o [(p:Int)]) p st H:=⟨bL.base (by simp),b,hr,Fr.refl _ _ _⟩
  refine Qf.nG _ _ 1 ((bL.base (by simp)).and λH o H' o' a f=>a.fr f (by simp)) λo hk f=>⟨hk.new _ _,?_⟩
  rw[e0];exact Cl.made
 have fI:JX (KB H b p i0 i1 t op (rc bS) aA []) p st H2:=by
  rw[iB];refine fH.nG _ _ 1 (KB.fe hd) λo hk f=>⟨hk.1.new _ _,hk.2.new,?_,.inl ⟨rfl,rfl⟩⟩
  rw[e1, ←l1];exact Cl.made
 have bx:=Dd op H;rw[←e0, ←fY] at bx;have n1:aS H1 47 1 [cv 0,.bool false,cv 0,cv 0,cv 0,aA]=(pv i1,H2):=by rw[iB,e1, ←l1];rfl
 have il: ∀{c1:List Value} {x:Value} {path:List Y.En} {s':Y.St} {H':aa},JX (KB H b p i0 i1 t op c1 x path) p s' H'→JX K p s' H':=λhj=>hj.mono hK λo' hg=>hK _ _ _ _ hk hg.fr
 simp -implicitDefEqProofs only[Ya,bx,n1,sS,Nat.reduceAdd];refine Ev.loop (k:=st.left) (λk vs Hx=>∃(x:Value) (path:List Y.En) (nn:Int) (sx:Y.St) (fx:Nat) (x5 aM x8 x9 bQ dF cJ dW:Value),JX (KB H b p i0 i1 t op (rc bS) x path) p sx Hx∧k=sx.left∧sx.left≤ff∧(sx.left+1≤fx∨sx.off=true)∧(-9223372036854775808≤nn∧nn≤65536)∧(∀e∈path, -9223372036854775808≤e.node∧e.node≤65536)∧path.length+sx.left≤1048577∧Y.ah (Y.dV (ff+1) (oa op) (ff+1) 1 []) st=Y.ah (Y.dV (ff+1) (oa op) fx nn path) sx∧vs=[pv p,jw op,pv i1,x5,aM,cv nn,pv i0,x8,x9,bQ,dF,cJ,dW,x])
  (λr=>∃(c1:List Value) (x:Value) (path:List Y.En) (sx:Y.St) (x5 aM x6 x8 x9 bQ dF cJ dW:Value),JX (KB H b p i0 i1 t op c1 x path) p sx r.2.2∧c1.length=6∧r.2.1=[pv p,jw op,pv i1,x5,aM,x6,pv i0,x8,x9,bQ,dF,cJ,dW,x]∧((r.1= .exit 0∧Y.ah (Y.dV (ff+1) (oa op) (ff+1) 1 []) st=((Y.Rs.nil,true),sx))∨(r.1= .ret∧∃rr bb,x5= .bool bb∧c1=rc (zz rr)∧Y.ah (Y.dV (ff+1) (oa op) (ff+1) 1 []) st=((rr,bb),sx))))
  ⟨aA,[],1,st,ff+1,_,_,_,_,_,_,_,_,fI,rfl,Zi,.inl (by omega),by omega,(λe he=>by cases he),by simpa using lst,rfl,rfl⟩ ?_ ?_
 ·rintro k vs Hx ⟨x,path,nn,sx,fx,x5,aM,x8,x9,bQ,dF,cJ,dW,hj,rfl,hl,pU,hnn,hp,hpl,E,rfl⟩;obtain⟨a0,a1⟩:=KB.n7 hj;simp -implicitDefEqProofs only[LG,yk,sS,Nat.reduceAdd];refine Ev.n3 hj (λhq=>?_) (λhq=>?_)<;>try simp -implicitDefEqProofs only[a0,sS,Nat.reduceAdd]
  ·rw[Dh hq] at E;exact Ev.ret (.inr ⟨by simp,_,_,path,sx,_,_,_,_,_,_,_,_,_,hj,rfl,rfl,.inl ⟨rfl,E⟩⟩)
  have l4:=iM hq;have P2:sx.left+1≤fx:=pU.resolve_right (by rw[hq];simp)
  obtain⟨fy,rfl⟩: ∃fy,fx=fy+1:=⟨fx-1,by omega⟩
  rw[uK hq] at E;refine Ev.eY (TE hj (f:=ff+1) (by omega) _ _) λzs s2 H2 e2 hj=>?_
  have m2:=dt e2;rw[Y.aI e2] at E;refine Ev.eY (G8 hj (f:=ff+1) (by omega) _) λzw s3 H3 e3 hj=>?_
  have m3:=Bu e3;rw[Y.aI e3] at E;refine Ev.is (js _) ?_
  try simp -implicitDefEqProofs only[sS,Nat.reduceAdd]
  refine Ev.eql (λMS=>?_) (λMS=>?_)<;>try simp -implicitDefEqProofs only[sS,Nat.reduceAdd]
  ·rw[if_pos MS] at E;refine Ev.is (n5 _) ?_;refine Ev.Mx (Jz hj (f:=ff) (by omega) _) λz s4 H4 e4 hj=>?_
   rw[Y.aI e4] at E;cases z<;>simp -implicitDefEqProofs only[sS,Nat.reduceAdd]
   ·refine Ev.call (JB hj) ?_;rintro v H5 ⟨rfl,hj⟩;obtain⟨H6,g5,g6,lJ⟩:=KB.fin hd hj rfl (lK 8);simp -implicitDefEqProofs only[g5,sS,Nat.reduceAdd];exact Ev.ret (.inr ⟨by simp,_,_,path,s4,_,_,_,_,_,_,_,_,_,lJ,rfl,rfl,.inr ⟨rfl,Y.Rs.qd,true,rfl,rfl,E⟩⟩)
   ·obtain⟨H6,g5,g6,lJ⟩:=KB.fin hd hj rfl bS;simp -implicitDefEqProofs only[De,g5,sS,Nat.reduceAdd];exact Ev.ret (.inr ⟨by simp,_,_,path,s4,_,_,_,_,_,_,_,_,_,lJ,rfl,rfl,.inr ⟨rfl,Y.Rs.nil,false,rfl,rfl,E⟩⟩)
  rw[if_neg MS] at E;refine Ev.eql (λhk3=>?_) (λhk3=>?_)<;>try simp -implicitDefEqProofs only[ade,adf,sS,Nat.reduceAdd]
  ·rw[if_pos hk3] at E;refine Ev.abB hd hj (by omega) λx' Hz hj=>?_
   refine Ev.is (n5 _) ?_
   try simp -implicitDefEqProofs only[sS,Nat.reduceAdd]
   refine Ev.ret (.inl ⟨rfl,s3.left,by omega,x',_,Y.aw zw,s3,fy,_,_,_,_,_,_,_,_,hj,rfl,by omega,.inl (by omega),qe _,λe he=>?_,by simp;omega,E,rfl⟩)
   rcases List.mem_append.1 he with h|h
   ·exact hp e h
   ·rw[List.mem_singleton] at h;subst h;exact hnn
  ·rw[if_neg hk3] at E;obtain⟨a0,a1⟩:=KB.n7 hj;simp -implicitDefEqProofs only[a1,sS,Nat.reduceAdd];refine Ev.call (abA hj (ff:=ff) (by omega) (λH o hg=>hg.en) (by have:=hd.lt;omega) hp (by omega) op hnn _ _) ?_
   rintro v H5 ⟨rfl,hj⟩;obtain⟨H6,g5,g6,lJ⟩:=KB.fin hd hj rfl (zz (Y.ah (Y.lI (ff+1) (oa op) nn zs zw path) s3).1.1);simp -implicitDefEqProofs only[g5,sS,Nat.reduceAdd];exact Ev.ret (.inr ⟨by simp,_,_,path,_,_,_,_,_,_,_,_,_,_,lJ,rfl,rfl,.inr ⟨rfl,_,_,rfl,rfl,E⟩⟩)
 ·rintro e vs Hx ⟨c1,x,path,sx,x5,aM,x6,x8,x9,bQ,dF,cJ,dW,hj,hc,rfl,he⟩;rcases he with⟨he,E⟩|⟨he,rr,bb,rfl,rfl,E⟩
  ·simp only at he;subst he;obtain⟨H6,g5,g6,lJ⟩:=KB.fin hd hj hc bS;simp -implicitDefEqProofs only[LH,yl,De,g5,g6,sS,Nat.reduceAdd];exact Ev.ret (jG.of (z:=Y.Rs.nil) (il lJ) E)
  ·simp only at he;subst he;obtain⟨_,o1,_,hg⟩:=id hj;have VD:=pL i1 (zz rr) (s:=aA) Hx hg.k1.1;show Ev (λ_=>af (pS (jf Tryz.prog 47 (pv i1) Hx) Hx) λv _=>some (Value.tuple #[v,.bool bb],Hx)) _
   simp -implicitDefEqProofs only[Zm,VD,sS,Nat.reduceAdd];exact Ev.ret (jG.of (il hj) E)
abbrev MT (K:aa→aj→Prop)(p:Nat)(st:Y.St)(t:Y.Tr Y.Rs):Value→aa→Prop:=λv H'=>v=gu (zz (Y.ah t st).1) aA∧JX K p (Y.ah t st).2 H'
theorem MT.of {t:Y.Tr Y.Rs}{z:Y.Rs}(hj:JX K p s1 H')(e:Y.ah t st=(z,s1)):MT K p st t (gu (zz z) aA) H':=by unfold MT;rw[e];exact⟨rfl,hj⟩
theorem Hi {f:Nat}{a k z:Int}{s s':Y.St}(e:Y.ah (Y.nC f a k) s=(z,s')):s'.left≤s.left-1:=by
 unfold Y.nC Y.ln at e;rw[Y.bind_assoc,Y.al] at e;have h1:(Y.ah (Y.rd a) s).2.left=s.left-1:=dr rfl;have h2:=dt e;omega
theorem Di {g f:Nat}{op:Y.Op}{n:Int}{path:List Y.En}{s s':Y.St}{z:Y.Rs×Bool}(h:s.off=false)(e:Y.ah (Y.dV g op (f+1) n path) s=(z,s')):s'.left≤s.left-1:=by
 rw[uK h,Y.al] at e;have h1:(Y.ah (Y.nC g n op.key) s).2.left≤s.left-1:=Hi rfl;have h2:=dt e;omega
theorem E9 {g f:Nat}{op:Y.Op}{s:Y.St}(h:s.off=true):Y.ah (Y.gk g op f) s=(Y.Rs.nil,s):=by
 cases f with
 |zero=>rfl
 |succ f=>unfold Y.gk;simp only[Y.al,bo,bK,bO,cS,cT,ne_eq,not_true_eq_false,not_false_eq_true,if_true,if_false,Bool.not_true,Bool.not_false,true_and,and_true,false_and,and_false,true_or,or_true,false_or,or_false,Bool.false_eq_true,decide_true,decide_false,h]
theorem Hj {g f:Nat}{op:Y.Op}{s:Y.St}(h:s.off=false):Y.ah (Y.gk g op (f+1)) s=Y.ah (Y.dV g op g 1 [] >>= λre=>if re.2=true then pure re.1 else Y.gk g op f) s:=by
 conv=>lhs;unfold Y.gk
 simp only[Y.al,bo,bK,bO,cS,cT,ne_eq,not_true_eq_false,not_false_eq_true,if_true,if_false,Bool.not_true,Bool.not_false,true_and,and_true,false_and,and_false,true_or,or_true,false_or,or_false,Bool.false_eq_true,decide_true,decide_false,h]
theorem Qh (h:JX K p st H){ff:Nat}(Zi:st.left≤ff)(op:ki):aF (run G) 127 [pv p,jw op] H (MT K p st (Y.gk (ff+1) (oa op) (ff+1))):=by
 refine Ev.up (t:=λk=>YU (run G k) k (pv p) (jw op) H) ?_ λk=>Tb ..
 obtain⟨hK,b,hr,hk⟩:=id h;obtain⟨i0,e0⟩: ∃i,i=H.length:=⟨_,rfl⟩;obtain⟨i1,e1⟩: ∃i,i=H.length+1:=⟨_,rfl⟩;obtain⟨t,Qb,C2⟩:=gH b H.length;have hd:Zl H b p i0 i1 t:=⟨e0,e1,Qb,λi hi=>by have:=C2 i hi;omega⟩
 obtain⟨H1,fY⟩: ∃z,z=H.new ⟨n6 op,39,1,false⟩:=⟨_,rfl⟩;have l1:H1.length=H.length+1:=by rw[fY,cC]
 obtain⟨H2,iB⟩: ∃z,z=H1.new ⟨rc bS,47,1,false⟩:=⟨_,rfl⟩;have fH:JX (λH' o=>Fr H b H' o [(p:Int)]∧Cl i0 (n6 op) 39 H' o) p st H1:=by
  rw[fY];have Qf:JX (λH' o=>Fr H b H' o [(p:Int)]) p st H:=⟨bL.base (by simp),b,hr,Fr.refl _ _ _⟩
  refine Qf.nG _ _ 1 ((bL.base (by simp)).and λH o H' o' a f=>a.fr f (by simp)) λo hk f=>⟨hk.new _ _,?_⟩
  rw[e0];exact Cl.made
 have fI:JX (KB H b p i0 i1 t op (rc bS) aA []) p st H2:=by
  rw[iB];refine fH.nG _ _ 1 (KB.fe hd) λo hk f=>⟨hk.1.new _ _,hk.2.new,?_,.inl ⟨rfl,rfl⟩⟩
  rw[e1, ←l1];exact Cl.made
 have bx:=Dd op H;rw[←e0, ←fY] at bx;have n1:aS H1 47 1 [cv 0,.bool false,cv 0,cv 0,cv 0,aA]=(pv i1,H2):=by rw[iB,e1, ←l1];rfl
 have il: ∀{c1:List Value} {x:Value} {path:List Y.En} {s':Y.St} {H':aa},JX (KB H b p i0 i1 t op c1 x path) p s' H'→JX K p s' H':=λhj=>hj.mono hK λo' hg=>hK _ _ _ _ hk hg.fr
 simp -implicitDefEqProofs only[YU,bx,n1,sS,Nat.reduceAdd];refine Ev.loop (k:=st.left) (λk vs Hx=>∃(sx:Y.St) (fx:Nat) (aN x6 aZ x5:Value),JX (KB H b p i0 i1 t op (rc bS) aA []) p sx Hx∧k=sx.left∧sx.left≤ff∧(sx.left+1≤fx∨sx.off=true)∧Y.ah (Y.gk (ff+1) (oa op) (ff+1)) st=Y.ah (Y.gk (ff+1) (oa op) fx) sx∧vs=[pv p,jw op,pv i1,aN,pv i0,x6,aZ,x5])
  (λr=>∃(c1:List Value) (sx:Y.St) (aN x6 aZ x5:Value),JX (KB H b p i0 i1 t op c1 aA []) p sx r.2.2∧c1.length=6∧r.2.1=[pv p,jw op,pv i1,aN,pv i0,x6,aZ,x5]∧((r.1= .exit 0∧Y.ah (Y.gk (ff+1) (oa op) (ff+1)) st=(Y.Rs.nil,sx))∨(r.1= .ret∧∃rr,c1=rc (zz rr)∧Y.ah (Y.gk (ff+1) (oa op) (ff+1)) st=(rr,sx))))
  ⟨st,ff+1,_,_,_,_,fI,rfl,Zi,.inl (by omega),rfl,rfl⟩ ?_ ?_
 ·rintro k vs Hx ⟨sx,fx,aN,x6,aZ,x5,hj,rfl,hl,pU,E,rfl⟩;obtain⟨a0,a1⟩:=KB.n7 hj;simp -implicitDefEqProofs only[Mh,yP,sS,Nat.reduceAdd];refine Ev.n3 hj (λhq=>?_) (λhq=>?_)<;>try simp -implicitDefEqProofs only[a1,sS,Nat.reduceAdd]
  ·rw[E9 hq] at E;exact Ev.ret (.inr ⟨by simp,_,sx,_,_,_,_,hj,rfl,rfl,.inl ⟨rfl,E⟩⟩)
  have l4:=iM hq;have P2:sx.left+1≤fx:=pU.resolve_right (by rw[hq];simp)
  obtain⟨fy,rfl⟩: ∃fy,fx=fy+1:=⟨fx-1,by omega⟩
  rw[Hj hq] at E;refine Ev.call (MR hj (ff:=ff) hl op) ?_;rintro v H5 ⟨rfl,hj⟩;generalize hR:Y.ah (Y.dV (ff+1) (oa op) (ff+1) 1 []) sx=R at hj
  obtain⟨⟨rr,bb⟩,s2⟩:=R;have m2:=Di hq hR;rw[Y.aI hR] at E;simp only at hj;obtain⟨H6,Dy⟩: ∃z,z=H5.new ⟨rc bS,47,1,false⟩:=⟨_,rfl⟩;have n2:aS H5 47 1 [cv 0,.bool false,cv 0,cv 0,cv 0,aA]=(pv H5.length,H6):=by rw[Dy];rfl
  have n9:JX (λH' o=>KB H b p i0 i1 t op (rc bS) aA [] H' o∧Cl H5.length (rc bS) 47 H' o∧i1<H5.length) p s2 H6:=by
   rw[Dy];refine hj.nG _ _ 1 ((KB.fe hd).and λH o H' o' a f=>⟨a.1.fr f (by simp),a.2⟩) λo hk f=>⟨KB.fe hd _ _ _ _ hk (f.wk (by simp)),Cl.made,ar hk.k1.1⟩
  obtain⟨_,o6,hr6,hg6,hc6,hi6⟩:=id n9;have kx:=uc H5.length (zz rr) (s:=aA) rfl H6 hc6.1 rfl;obtain⟨H7,Rj⟩: ∃z,z=H6.put H5.length ⟨rc (zz rr),47,1,false⟩:=⟨_,rfl⟩;rw[←Rj] at kx;have JA:JX (λH' o=>KB H b p i0 i1 t op (rc bS) aA [] H' o∧Cl H5.length (rc (zz rr)) 47 H' o∧i1<H5.length) p s2 H7:=by
   rw[Rj];refine n9.uf (λo hg=>hg.2.1) ((KB.fe hd).and λH o H' o' a f=>⟨a.1.fr f (by simp),a.2⟩) λo hg=>⟨⟨hg.1.fr.put λhh=>by omega,hg.1.k0.put (by omega),hg.1.k1.put (by omega),.inl ⟨rfl,rfl⟩⟩,hg.2.1.self,hg.2.2⟩
  have hj8:JX (KB H b p i0 i1 t op (rc bS) aA []) p s2 H7:=JA.mono (KB.fe hd) λo a=>a.1
  obtain⟨_,o7,hr7,hg7,hc7,hi7⟩:=id JA;have uU:=pL H5.length (zz rr) (s:=aA) H7 hc7.1;obtain⟨H8,g5,g6,lJ⟩:=KB.fin hd hj8 rfl (zz rr);simp -implicitDefEqProofs only[n2,kx,sS,Nat.reduceAdd];cases bb<;>simp -implicitDefEqProofs only[uU,g5,sS,Nat.reduceAdd]
  ·exact Ev.ret (.inl ⟨rfl,s2.left,by omega,s2,fy,_,_,_,_,hj8,rfl,by omega,.inl (by omega),by rw[E];rfl,rfl⟩)
  ·exact Ev.ret (.inr ⟨by simp,_,s2,_,_,_,_,lJ,rfl,rfl,.inr ⟨rfl,rr,rfl,by rw[E];rfl⟩⟩)
 ·rintro e vs Hx ⟨c1,sx,aN,x6,aZ,x5,hj,hc,rfl,he⟩;rcases he with⟨he,E⟩|⟨he,rr,rfl,E⟩
  ·simp only at he;subst he;obtain⟨H6,g5,g6,lJ⟩:=KB.fin hd hj hc bS;simp -implicitDefEqProofs only[Mi,yQ,De,g5,g6,sS,Nat.reduceAdd];exact Ev.ret (MT.of (z:=Y.Rs.nil) (il lJ) E)
  ·simp only at he;subst he;obtain⟨_,o1,_,hg⟩:=id hj;have VD:=pL i1 (zz rr) (s:=aA) Hx hg.k1.1;show Ev (λ_=>af (pS (jf Tryz.prog 47 (pv i1) Hx) Hx) λv _=>some (v,Hx)) _
   simp -implicitDefEqProofs only[Zm,VD,sS,Nat.reduceAdd];exact Ev.ret (MT.of (il hj) E)
end
end Go.Proofs.YtgfgglponbmgmaaGreat.Fun
end
