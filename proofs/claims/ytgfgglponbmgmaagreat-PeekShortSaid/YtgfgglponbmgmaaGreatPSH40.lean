/- Texts of the proof of peekShort_holds, put together by a small program of ours (names shortened, spaces taken out). No condition beyond the given statement. -/
import Derived.Test.YtgfgglponbmgmaaGreatPSH9
import Derived.Test.YtgfgglponbmgmaaGreatPSH39
import Derived.Test.YtgfgglponbmgmaaGreatRows
import Derived.WalkKit
import Derived.ProofKit
import Derived.OpenShut
import Derived.ShutString
import Derived.ChangeOld
import Derived.Below
import Derived.SizedLaws
set_option linter.unusedVariables false
set_option linter.unusedSimpArgs false
set_option linter.unnecessarySimpa false
noncomputable section
section
namespace Go.Proofs.YtgfgglponbmgmaaGreat.Fun
open Go Go.RowKit Go.Proofs.YtgfgglponbmgmaaGreatA.Am
set_option maxRecDepth 10000
section
open Go.Proofs.YtgfgglponbmgmaaGreatA
variable {H:aa}
theorem Yd {m:Y.Mm}{s:Int}(h:pk (m.at s)≠5):cY ⟨0,s,0,0⟩ m=⟨3,s,0,km m s⟩:=by
 unfold cY km;rw[if_pos rfl,if_pos h,if_pos h]
theorem Pz {m:Y.Mm}{s:Int}(h:pk (m.at s)=5): ∃c1 c2 a,cY ⟨0,s,0,0⟩ m=⟨1,c1,a,0⟩∧cY ⟨1,c1,a,0⟩ m=⟨2,c2,a,0⟩∧cY ⟨2,c2,a,0⟩ m=⟨3,c2,a,km m s⟩:=by
 refine⟨pa (m.at s)+4,if m.at (pa (m.at s)+4)=1 then pa (m.at s)+3 else pa (m.at s)+2,pa (m.at s),?_,?_,?_⟩
 ·simp[cY,h]
 ·simp[cY]
 ·simp[cY,km,h];split<;>rfl
theorem zW (c dS:Int)(lay:Bool){ky xl:Value}{ks zl:List Int}(hky:sA H ky ks)(hkr:dV H o0 (-1) ky ks)(hl:dV H o0 (-1) xl zl)(TW:zl.length≤maxLen):aE (run KG) 6 [cv c,ky,xl,cv dS,.bool lay] H λv H'=>v= .bool true:=by
 refine Ev.up (t:=λn=>F6 (run KG n) n (cv c) ky xl (cv dS) (.bool lay) H) ?_ λn=>Zr ..
 simp -implicitDefEqProofs only[F6,sS,Nat.reduceAdd];refine Ev.call (X8 c hky hkr hl TW) ?_;rintro v H1 ⟨yp,xp,pp,mp,o1,m,cm,th,L,rfl,f1,hy,hI,hT⟩;have J0: ∀{H2:aa} {o2:aj} {m:Y.Mm} {cm:Int} {th:kl} {L:List ku} (aC bM aN aM aI cx fh aT:Value),YR H2 o2 yp xp pp mp m m cm th L→TI th m→Ev (λn=>GF (run KG n) n [cv c,ky,xl,cv dS,.bool lay,aC,bM,pv yp,aN,aM,aI,cx,fh,aT] H2) λr=>r.1= .bool true:=by
  intro H2 o2 m cm th L aC bM aN aM aI cx fh aT hy hT;obtain⟨Ga,hG⟩:=hT;obtain⟨a0,a1,a2⟩:=hy.ld;simp -implicitDefEqProofs only[Qe,Fz,a1,a2,sS,Nat.reduceAdd];refine Ev.call (Px hy.CT.look hG.inv hG.root o2 dS) ?_;rintro v H3 ⟨o3,node,slot,q,f3,rfl,so,hz⟩;have adg: ∀H,Zo 1 (.agg #[cv node,cv slot]) H=some (cv slot,H):=λ_=>rfl
  simp -implicitDefEqProofs only[adg,sS,Nat.reduceAdd];refine Ev.call (SN slot) ?_;rintro v H4 ⟨rfl,e4⟩;have f4:Fr H3 o3 H4 (o3.up H3.length (-96)) []:=by rw[e4];exact(Fr.refl _ _ _).new _ _
  have TV:PF H4 (o3.up H3.length (-96)) H3.length (-96) (Mc ⟨0,slot,0,0⟩):=by rw[e4];exact PF.new _
  have hy4:=(hy.fr f3 (by simp)).fr f4 (by simp)
  generalize o3.up H3.length (-96)=o4 at f4 TV hy4
  obtain⟨fp,efp⟩: ∃fp,fp=H3.length:=⟨_,rfl⟩;rw[←efp] at TV ⊢;have pd: ∀(s:Gm),s.next=0→LL s:=λs h=>⟨by omega,by omega,λh=>by omega⟩
  try simp -implicitDefEqProofs only[sS,Nat.reduceAdd]
  refine Ev.loop (k:=3) (λkk vs Hx=>∃(ox:aj) (s:Gm) (cz:Int) (cx fh aT:Value),vs=[cv c,ky,xl,cv dS,.bool lay,aC,bM,pv yp,cv slot,cv (s.next+1),pv fp,cx,fh,aT]∧YR Hx ox yp xp pp mp m m cz th L∧PF Hx ox fp (-96) (Mc s)∧LL s∧s.next+kk=3∧0<kk∧(s=⟨0,slot,0,0⟩∨(pk (m.at slot)=5∧∃c1 c2 a,cY ⟨0,slot,0,0⟩ m=⟨1,c1,a,0⟩∧cY ⟨1,c1,a,0⟩ m=⟨2,c2,a,0⟩∧cY ⟨2,c2,a,0⟩ m=⟨3,c2,a,km m slot⟩∧(s=⟨1,c1,a,0⟩∨s=⟨2,c2,a,0⟩))))
   (λr=>r.1= .exit 0∧∃(ox:aj) (s:Gm) (cz:Int) (cx fh aT:Value),r.2.1=[cv c,ky,xl,cv dS,.bool lay,aC,bM,pv yp,cv slot,cv (if pk (m.at slot)=5 then 3 else 1),pv fp,cx,fh,aT]∧YR r.2.2 ox yp xp pp mp m m cz th L∧PF r.2.2 ox fp (-96) (Mc s)∧LL s∧s.next=3∧s.word=km m slot)
   ⟨o4,⟨0,slot,0,0⟩,cm,_,_,_,rfl,hy4,TV,pd _ rfl,rfl,by omega,.inl rfl⟩ ?_ ?_
  ·rintro kk vs Hx ⟨ox,s,cz,cx,fh,aT,rfl,PT,W8,XV,hkk,hkp,hs⟩;obtain⟨b0,b1,b2⟩:=PT.ld;have hn9:s.next+1<9:=by omega
   simp -implicitDefEqProofs only[Qb,Fv,sS,Nat.reduceAdd];refine Ev.lss (λ_=>?_) (λh=>absurd hn9 h)
   simp -implicitDefEqProofs only[b0,Nat.add_zero,sS,Nat.reduceAdd];refine Ev.call (EB (pF.start PT W8 (by omega)) XV) ?_
   rintro v H5 ⟨rfl,kh⟩;obtain⟨o5,hm5,PU,fr5⟩:=kh.back;have SP:=PT.abd fr5 (by decide) hm5
   have ED:=LM XV m;obtain⟨p0,p3,_⟩:=id XV;have hw:IntKind.i64.wrap (s.next+1+1)=s.next+1+1:=fL (by omega)
   have on: ∀(s1:Gm),cY s m=s1→s1.next≠3→decide ((cY s m).next=3)=false:=λs1 e h=>by rw[e];exact decide_eq_false h
   have abe: ∀(s1:Gm),cY s m=s1→s1.next=3→decide ((cY s m).next=3)=true:=λs1 e h=>by rw[e];exact decide_eq_true h
   by_cases h5:pk (m.at slot)=5
   ·obtain⟨c1,c2,a,e1,e2,e3⟩:=Pz h5;have PB:s=⟨0,slot,0,0⟩∨s=⟨1,c1,a,0⟩∨s=⟨2,c2,a,0⟩:=by
     rcases hs with h|⟨_,d1,d2,d,g1,g2,g3,h⟩
     ·exact .inl h
     ·rw[e1] at g1;cases g1;rw[e2] at g2;cases g2;exact .inr h
    rcases PB with rfl|rfl|rfl
    ·simp -implicitDefEqProofs only[on _ e1 (by simp),hw,sS,Nat.reduceAdd]
     rw[e1] at PU ED;refine Ev.ret (.inl ⟨rfl,2,by simp at hkk;omega,o5,⟨1,c1,a,0⟩,_,_,_,_,rfl,SP,PU,ED,rfl,by omega,.inr ⟨h5,c1,c2,a,e1,e2,e3,.inl rfl⟩⟩)
    ·simp -implicitDefEqProofs only[on _ e2 (by simp),hw,sS,Nat.reduceAdd]
     rw[e2] at PU ED;refine Ev.ret (.inl ⟨rfl,1,by simp at hkk;omega,o5,⟨2,c2,a,0⟩,_,_,_,_,rfl,SP,PU,ED,rfl,by omega,.inr ⟨h5,c1,c2,a,e1,e2,e3,.inr rfl⟩⟩)
    ·simp -implicitDefEqProofs only[abe _ e3 rfl,sS,Nat.reduceAdd];rw[e3] at PU ED;exact Ev.ret (.inr ⟨by simp,rfl,o5,⟨3,c2,a,km m slot⟩,_,_,_,_,by rw[if_pos h5];rfl,SP,PU,ED,rfl,rfl⟩)
   ·rcases hs with rfl|⟨h,_⟩
    ·have e1:=Yd h5;simp -implicitDefEqProofs only[abe _ e1 rfl,sS,Nat.reduceAdd];rw[e1] at PU ED;exact Ev.ret (.inr ⟨by simp,rfl,o5,⟨3,slot,0,km m slot⟩,_,_,_,_,by rw[if_neg h5];rfl,SP,PU,ED,rfl,rfl⟩)
    ·exact absurd h h5
  ·rintro e vs Hx ⟨he,ox,s,cz,cx,fh,aT,rfl,PT,W8,XV,Sk,hsw⟩;simp only at he;subst he;obtain⟨b0,b1,b2⟩:=PT.ld;have es:cY s m=s:=by unfold cY;rw[if_neg (by omega),if_neg (by omega),if_neg (by omega)]
   have J3: ∀(fh:Value),Ev (λn=>GD (run KG n) n [cv c,ky,xl,cv dS,.bool lay,aC,bM,pv yp,cv slot,cv (if pk (m.at slot)=5 then 3 else 1),pv fp,cx,fh,cv (if pk (m.at slot)=5 then 3 else 1)] Hx) λr=>r.1= .bool true:=by
    intro fh;simp -implicitDefEqProofs only[Qc,Fw,sS,Nat.reduceAdd];refine Ev.is (ade 25 (by decide) Hx) ?_
    try simp -implicitDefEqProofs only[sS,Nat.reduceAdd]
    refine Ev.eql (λ_=>?_) (λh=>absurd rfl h)
    try simp -implicitDefEqProofs only[sS,Nat.reduceAdd]
    refine Ev.is (EA (pF.start PT W8 (by omega))) ?_
    simp -implicitDefEqProofs only[b0,Nat.add_zero,hsw,sS,Nat.reduceAdd];refine Ev.is (EC PT.jp slot) ?_
    try simp -implicitDefEqProofs only[sS,Nat.reduceAdd]
    refine Ev.eql (λ_=>?_) (λh=>absurd rfl h)
    simp -implicitDefEqProofs only[b0,Nat.add_zero,sS,Nat.reduceAdd];refine Ev.call (EB (pF.start PT W8 (by omega)) XV) ?_
    rintro v H5 ⟨rfl,kh⟩;rw[es] at kh ⊢;obtain⟨o5,hm5,PU,fr5⟩:=kh.back;have SP:=PT.abd fr5 (by decide) hm5
    obtain⟨d0,d1,d2⟩:=SP.ld;have ht:decide (s.next=3)=true:=decide_eq_true Sk;simp -implicitDefEqProofs only[ht,sS,Nat.reduceAdd];refine Ev.is (EA (pF.start SP PU (by omega))) ?_
    simp -implicitDefEqProofs only[d0,Nat.add_zero,hsw,sS,Nat.reduceAdd];refine Ev.is (EC SP.jp slot) ?_
    try simp -implicitDefEqProofs only[sS,Nat.reduceAdd]
    refine Ev.eql (λ_=>?_) (λh=>absurd rfl h)
    try simp -implicitDefEqProofs only[sS,Nat.reduceAdd]
    refine Ev.call (X9 SP) ?_;rintro v H6 ⟨rfl,o6,f6,hy6⟩;simp -implicitDefEqProofs only[b0,d0,jM,Nat.add_zero,sS,Nat.reduceAdd];exact Ev.ret rfl
   simp -implicitDefEqProofs only[Qd,Fy,b0,Nat.add_zero,sS,Nat.reduceAdd];refine Ev.is (tM PT.jp slot) ?_
   try simp -implicitDefEqProofs only[sS,Nat.reduceAdd]
   refine Ev.is (CR _) ?_
   try simp -implicitDefEqProofs only[sS,Nat.reduceAdd]
   have J3':=J3;refine Ev.eql (λh5=>?_) (λh5=>?_)<;>try simp -implicitDefEqProofs only[sS,Nat.reduceAdd]
   ·simp only[if_pos h5] at J3' ⊢;exact J3' _
   ·simp only[if_neg h5] at J3' ⊢;exact J3' _
 try simp -implicitDefEqProofs only[sS,Nat.reduceAdd]
 cases lay<;>simp -implicitDefEqProofs only[adf,sS,Nat.reduceAdd]
 ·exact J0 _ _ _ _ _ _ _ _ hy hT
 ·simp -implicitDefEqProofs only[vC,sS,Nat.reduceAdd];obtain⟨Ga,hG⟩:=hT;refine Ev.call (aa8 hy hG.inv hG.root dS _) ?_;rintro v H2 ⟨o2,node,slot,q,adI,f2,so,hz,rfl,Xe⟩;obtain⟨G2,hG2,_⟩:=LN hG so hz (decide (dS.tmod 2=0))
  try simp -implicitDefEqProofs only[sS,Nat.reduceAdd]
  exact J0 _ _ _ _ _ _ _ _ Xe ⟨G2,hG2⟩
end
end Go.Proofs.YtgfgglponbmgmaaGreat.Fun
namespace Go.Proofs.YtgfgglponbmgmaaGreat.Pure
open Go.RowKit Go.Proofs.YtgfgglponbmgmaaGreatA.Am Fun
set_option maxRecDepth 10000
theorem zX:Tl Tryz.prog 6 [3,22,22,3,4]:=Xg λH args hr hi=>by
 obtain⟨v0,_,rfl,h0,v1,_,rfl,h1,v2,_,rfl,h2,v3,_,rfl,h3,v4,_,rfl,h4,rfl⟩:=hi;obtain⟨c,rfl,_⟩:=h0.int uI;obtain⟨dS,rfl,_⟩:=h3.int uI;obtain⟨lay,rfl⟩:=h4.bool (show Tryz.prog.underlying 4=some .bool from by kernel_rfl)
 obtain⟨ks,Dh,hk2,_⟩:=lR.abb (show Tryz.prog.underlying 22=some (.slice 3) from by kernel_rfl) uI (by kernel_rfl) h1
 obtain⟨zl,Yi,_,P9⟩:=h2.ints (show Tryz.prog.underlying 22=some (.slice 3) from by kernel_rfl) uI (by kernel_rfl)
 obtain⟨N,⟨v,H1⟩,e1,e2⟩:=zW c dS lay Dh hk2 Yi P9;have e3:=e1 N (Nat.le_refl _);simp only at e2 e3;exact⟨N,H1,by rw[e3,e2]⟩
end Go.Proofs.YtgfgglponbmgmaaGreat.Pure
end
section
namespace Go.Proofs.YtgfgglponbmgmaaGreat.A9
open Go.ChangeShapes Go.WideShapes Go.ChangeAt Go.RowKit Go.Proofs.YtgfgglponbmgmaaGreatA.Am
theorem own:ownKnob Tryz.prog.godebug=none:=by kernel_rfl
set_option maxRecDepth 100000 in
theorem lifted (os:Os)(started:os.Started)(H:Type)(enc:TypeId×Value→H):
  ReturnsInHanded {} Tryz.checked os 6 .any (Rows.peekShortSpec.pre6 enc Tryz.prog Tryz.f6 Rows.peekShortRow.domain false) (Rows.peekShortSpec.post enc Tryz.prog Tryz.f6 false true false false):=by
 refine returnsInHanded_of_change_sized (C:=Tryz.checked) own started (by kernel_rfl) Tryz.func6
  (ChangeSpec.witness6 (enc:=enc) (C:=Tryz.checked) false ⟨#[],#[.int .i64 0,.slice none 0 0,.slice none 0 0,.int .i64 0,.bool false],[]⟩ 8 (by kernel_rfl) (by kernel_rfl) (by kernel_rfl) (by kernel_rfl)) ?_
 intro W base args ds gs before T9 hW adJ EW _;have oC: ∀(j:Nat) t v,Tryz.f6.params[j]? =some t→args[j]? =some v→Value.okWide Tryz.prog W .any base t v:=T9;have hW':=hW;obtain⟨p,q,hA0,hV,rfl,hfz,hnd⟩:=hW;have hA:DataW.TrodAll enc Tryz.prog W 0 (λ_=>true) true Tryz.f6.params.toList args.toList ds p:=hA0
 rw[Tryz.params6] at hA oC;obtain⟨rfl,rfl⟩:=trodVars_none hV;have gB: ∀x∈p,x.block<W.heap.size:=λx hx=>by simpa using hW'.lt x (by simpa using hx)
 have hw:=Tl.walk Pure.zX (by kernel_rfl) (vs:=args.toList) (λj t v e1 e2=>oC j t v (by simpa using e1) (by simpa using e2)) hA
 have hA2:=hA;obtain⟨_,vs0,d0,ds0,p0,q0,_,rfl,_,_,r0⟩:=trodAll_cons hA2;obtain⟨_,Fa,d1,ds1,p1,q1,rfl,rfl,rfl,_,r1⟩:=trodAll_cons r0;obtain⟨_,Uo,d2,ds2,p2,q2,rfl,rfl,rfl,_,r2⟩:=trodAll_cons r1;obtain⟨_,vs3,d3,ds3,p3,q3,rfl,rfl,rfl,_,r3⟩:=trodAll_cons r2;obtain⟨_,vs4,d4,ds4,p4,q4,rfl,rfl,rfl,_,r4⟩:=trodAll_cons r3;obtain⟨_,rfl,_⟩:=trodAll_nil r4;clear hA0 T9 EW;rw[Array.toArray_toList] at hw;refine hw.mono λe W' ⟨he,bel⟩=>?_
 subst he;exact⟨_,rfl,_,_,_,[],_,[],hW',trodAll_mk1 (shut_bool Tryz.underlying4 _),KV (by kernel_rfl) _ _ _ _ (by kernel_rfl) hA bel gB,rfl,bel.frame _,λh=>by cases h⟩
theorem adh:Rows.peekShortRow.holds Tryz.pinned (OpenSpec.ofChange Rows.peekShortSpec):=
 OpenClaim.holds_of_wide 6 Tryz.f6 rfl rfl rfl rfl rfl rfl rfl ⟨rfl,rfl,rfl,rfl,rfl⟩ rfl rfl rfl rfl rfl (by kernel_rfl) Tryz.func6 (by kernel_rfl)
  (of_decide_eq_true (by kernel_rfl)) (by unfold Func.isWrapper;first| (rw[if_pos (by decide +kernel)];kernel_rfl)| (rw[if_neg (by decide +kernel)];exact⟨rfl,rfl⟩))
  (λos started H enc _=>lifted os started H enc)
theorem proved:Rows.PeekShortSaid:=adh
end Go.Proofs.YtgfgglponbmgmaaGreat.A9
namespace Go.Proofs.YtgfgglponbmgmaaGreat
theorem peekShort_holds:Rows.PeekShortSaid:=A9.proved
end Go.Proofs.YtgfgglponbmgmaaGreat
end
