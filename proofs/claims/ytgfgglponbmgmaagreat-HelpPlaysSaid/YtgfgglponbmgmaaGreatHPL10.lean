/- Texts of the proof of helpPlays_holds, put together by a small program of ours (names shortened, spaces taken out). No condition beyond the given statement. -/
import Derived.Test.YtgfgglponbmgmaaGreatHPL9
set_option linter.unusedVariables false
set_option linter.unusedSimpArgs false
set_option linter.unnecessarySimpa false
noncomputable section
section
namespace Go.Proofs.YtgfgglponbmgmaaGreatA.Am
abbrev AW {α:Type}(kb:List Value→aa→Option α)(k:bA→List Value→aa→Option α):bA→List Value→aa→Option α:=
 λe vs H=>match e with
  | .normal=>kb vs H
  |e=>k e vs H
abbrev Ic {α:Type}(id:Nat)(k:bA→List Value→aa→Option α):bA→List Value→aa→Option α:=
 λe vs H=>match e with
  | .exit i=>if i=id then k .normal vs H else k (.exit i) vs H
  |e=>k e vs H
theorem xd {α:Type}(kb:List Value→aa→Option α)(k:bA→List Value→aa→Option α):AW kb k=dS kb k:=rfl
theorem Ew {α:Type}(id:Nat)(k:bA→List Value→aa→Option α):Ic id k=dK id k:=rfl
abbrev Ex {α:Type}(P:Program)(C:ae)(ops:Array Oper):List Oper→Env→aa→(Env→aa→Option α)→Option α
 | [],E,H,k=>k E H
 |o::r,E,H,k=>af (match o.guard with
   |none=>gA P C E H o
   |some _=>gd (dG ops o E) (gA P C E H o) H) λv H'=>Ex P C ops r (E.put o.dst v) H' k
theorem Oi {α:Type}(P:Program)(C:ae)(ops:Array Oper)(l:List Oper)(E:Env)(H:aa)(k:Env→aa→Option α):Ex P C ops l E H k=Gu P C ops l E H k:=by
 induction l generalizing E H with
 |nil=>rfl
 |cons o r ih=>simp only[Ex,Gu,ih];rfl
abbrev Ca {α:Type}(P:Program)(C:ae)(ops:Array Oper):List Oper→Env→aa→List (Env×aa)→(Env→aa→List (Env×aa)→Option α)→Option α
 | [],E,H,T,k=>k E H (T++[(E,H)])
 |o::r,E,H,T,k=>af (match o.guard with
   |none=>gA P C E H o
   |some _=>gd (dG ops o E) (gA P C E H o) H) λv H'=>Ca P C ops r (E.put o.dst v) H' (T++[(E,H)]) k
theorem KJ {α:Type}(P:Program)(C:ae)(ops:Array Oper)(l:List Oper)(E:Env)(H:aa)(T:List (Env×aa))(k:Env→aa→List (Env×aa)→Option α):Ca P C ops l E H T k=AT P C ops l E H T k:=by
 induction l generalizing E H T with
 |nil=>rfl
 |cons o r ih=>simp only[Ca,AT,ih];rfl
abbrev Cb {α:Type}(P:Program)(C:ae)(F:List Nat)(base:Nat)(ops:Array Oper):List Oper→Nat→Env→aa→(Env→aa→Option α)→Option α
 | [],_,E,H,k=>k E H
 |o::r,j,E,H,k=>af (match o.guard with
   |none=>dA P C F base j E H o
   |some _=>gd (dG ops o E) (dA P C F base j E H o) H) λv H'=>Cb P C F base ops r (j+1) (E.put o.dst v) H' k
theorem KK {α:Type}(P:Program)(C:ae)(F:List Nat)(base:Nat)(ops:Array Oper)(l:List Oper)(j:Nat)(E:Env)(H:aa)(k:Env→aa→Option α):Cb P C F base ops l j E H k=AU P C F base ops l j E H k:=by
 induction l generalizing j E H with
 |nil=>rfl
 |cons o r ih=>simp only[Cb,AU,ih];rfl
abbrev vz {α:Type}(P:Program)(C:ae)(F:List Nat)(base:Nat)(ops:Array Oper):List Oper→Nat→Env→aa→List (Env×aa)→(Env→aa→List (Env×aa)→Option α)→Option α
 | [],_,E,H,T,k=>k E H (T++[(E,H)])
 |o::r,j,E,H,T,k=>af (match o.guard with
   |none=>dA P C F base j E H o
   |some _=>gd (dG ops o E) (dA P C F base j E H o) H) λv H'=>vz P C F base ops r (j+1) (E.put o.dst v) H' (T++[(E,H)]) k
theorem Gx {α:Type}(P:Program)(C:ae)(F:List Nat)(base:Nat)(ops:Array Oper)(l:List Oper)(j:Nat)(E:Env)(H:aa)(T:List (Env×aa))(k:Env→aa→List (Env×aa)→Option α):vz P C F base ops l j E H T k=tC P C F base ops l j E H T k:=by
 induction l generalizing j E H T with
 |nil=>rfl
 |cons o r ih=>simp only[vz,tC,ih];rfl
abbrev xe {α:Type}(P:Program)(C:ae)(ops:Array Oper)(draw:Bool)(E:Env)(H:aa)(k:Env→aa→Option α):Option α:=
 if draw then
  match lQ P ops with
  | []=>match mI P ops with
   | []=>Ex P C ops ops.toList E H k
   |cs=>Ca P C ops ops.toList E H [] λE' H' T=>if cs.all (iV P ops T) then k E' H' else none
  |F=>tD F.length H λbase H=>match mI P ops with
   | []=>Cb P C F base ops ops.toList 0 E H k
   |cs=>vz P C F base ops ops.toList 0 E H [] λE' H' T=>if cs.all (iV P ops T) then k E' H' else none
 else Ex P C ops ops.toList E H k
theorem Ez {α:Type}(P:Program)(C:ae)(ops:Array Oper)(draw:Bool)(E:Env)(H:aa)(k:Env→aa→Option α):xe P C ops draw E H k=rP P C ops draw E H k:=by
 simp only[xe,rP,Oi,KJ,KK,Gx];rfl
inductive Mk:Type→Type 1 where
 |leaf {α:Type}:Mk α
 |seq {α:Type} (a b:Mk α):Mk α
 |oL {α:Type} (a:Mk α) (J:List Value→aa→Option α) (b:Mk α):Mk α
 |cond {α:Type} (a b:Mk α):Mk α
 |block {α:Type} (a:Mk α):Mk α
 |scope {α:Type} (a:Mk α):Mk α
 |loop {α:Type} (f:List Value→aa→bd) (a:Mk (bA×List Value×aa)):Mk α
abbrev KN (P:Program)(C:ae)(keep:List Nat)(n:Nat):{α:Type}→Code→List Value→aa→(bA→List Value→aa→Option α)→Option α
 |_,.skip,vs,H,k=>k .normal vs H
 |_,.label _,vs,H,k=>k .normal vs H
 |_,.region _ ops draw,vs,H,k=>xe P C ops draw (keep.zip vs) H λE H'=>k .normal (keep.map E.get) H'
 |_,.seq a b,vs,H,k=>KN P C keep n a vs H (AW (λjf H'=>KN P C keep n b jf H' k) k)
 |_,.cond c a b,vs,H,k=>aU (eF (keep.zip vs) c) (KN P C keep n a vs H k) (KN P C keep n b vs H k)
 |_,.block id c,vs,H,k=>KN P C keep n c vs H (Ic id k)
 |_,.loop c,vs,H,k=>cl (iter n (λvs H=>nV P C keep n c vs H fin) vs H) k
 |_,.exit id,vs,H,k=>k (.exit id) vs H
 |_,.scope c,vs,H,k=>KN P C keep n c vs H k
 |_,.ret,vs,H,k=>k .ret vs H
 |_,.goto _,_,_,_=>none
 |_,.rangeFunc g ps x y,vs,H,k=>Eu (Wg P.funcs.size C (eF (keep.zip vs) g) ⟨keep,vs,ps,x,y⟩ H) λe H'=>k e vs H'
 |_,.refuse _,_,_,_=>none
theorem Wk (P:Program)(C:ae)(keep:List Nat)(n:Nat)(c:Code): ∀{α:Type} (vs:List Value) (H:aa) (k:bA→List Value→aa→Option α),
  KN P C keep n c vs H k=nV P C keep n c vs H k:=by
 induction c with
 |region p ops draw=>intros;simp only[KN,nV,Ez]
 |seq a b KA KC=>intros;simp only[KN,nV,KA,KC,xd]
 |cond c a b KA KC=>intros;simp only[KN,nV,KA,KC]
 |block id c ih=>intros;simp only[KN,nV,ih,Ew]
 |scope c ih=>intros;simp only[KN,nV,ih]
 |_=>intros;rfl
abbrev Cc (P:Program)(C:ae)(keep:List Nat)(n:Nat):{α:Type}→Mk α→Code→List Value→aa→(bA→List Value→aa→Option α)→Option α
 |_,.seq ma mb,.seq a b,vs,H,k=>Cc P C keep n ma a vs H (AW (λjf H'=>Cc P C keep n mb b jf H' k) k)
 |_,.oL ma J _,.seq a _,vs,H,k=>Cc P C keep n ma a vs H (AW J k)
 |_,.cond ma mb,.cond c a b,vs,H,k=>aU (eF (keep.zip vs) c) (Cc P C keep n ma a vs H k) (Cc P C keep n mb b vs H k)
 |_,.block ma,.block id c,vs,H,k=>Cc P C keep n ma c vs H (Ic id k)
 |_,.scope ma,.scope c,vs,H,k=>Cc P C keep n ma c vs H k
 |_,.loop f _,.loop _,vs,H,k=>cl (iter n f vs H) k
 |_,_,c,vs,H,k=>KN P C keep n c vs H k
def rQ (P:Program)(C:ae)(keep:List Nat)(n:Nat):{α:Type}→Mk α→Code→(bA→List Value→aa→Option α)→Prop
 |_,.seq ma mb,.seq a b,k=>rQ P C keep n ma a (AW (λjf H'=>Cc P C keep n mb b jf H' k) k)∧rQ P C keep n mb b k
 |_,.oL ma J mb,.seq a b,k=>rQ P C keep n ma a (AW J k)∧rQ P C keep n mb b k∧∀vs H,Cc P C keep n mb b vs H k=J vs H
 |_,.cond ma mb,.cond _ a b,k=>rQ P C keep n ma a k∧rQ P C keep n mb b k
 |_,.block ma,.block id c,k=>rQ P C keep n ma c (Ic id k)
 |_,.scope ma,.scope c,k=>rQ P C keep n ma c k
 |_,.loop f ma,.loop c,_=>rQ P C keep n ma c fin∧∀vs H,Cc P C keep n ma c vs H fin=f vs H
 |_,.leaf,_,_=>True
 |_,_,_,_=>False
theorem Wl (P:Program)(C:ae)(keep:List Nat)(n:Nat){α:Type}(m:Mk α): ∀(c:Code) (vs:List Value) (H:aa) (k:bA→List Value→aa→Option α),
  rQ P C keep n m c k→Cc P C keep n m c vs H k=nV P C keep n c vs H k:=by
 induction m with
 |leaf=>intro c vs H k _;cases c<;>exact Wk ..
 |seq ma mb KA KC=>
  intro c vs H k h;cases c with
  |seq a b=>
   obtain⟨h1,h2⟩:=h;simp only[Cc,nV];rw[KA a vs H _ h1];have:(λjf H'=>Cc P C keep n mb b jf H' k)=λjf H'=>nV P C keep n b jf H' k:=by funext jf H';exact KC b jf H' k h2
   rw[this,xd]
  |_=>exact h.elim
 |oL ma J mb KA KC=>
  intro c vs H k h;cases c with
  |seq a b=>
   obtain⟨h1,h2,h3⟩:=h;simp only[Cc,nV];rw[KA a vs H _ h1];have:J=λjf H'=>nV P C keep n b jf H' k:=by funext jf H';rw[←h3];exact KC b jf H' k h2
   rw[←this,xd]
  |_=>exact h.elim
 |cond ma mb KA KC=>
  intro c vs H k h;cases c with
  |cond c a b=>obtain⟨h1,h2⟩:=h;simp only[Cc,nV];rw[KA a vs H k h1,KC b vs H k h2]
  |_=>exact h.elim
 |block ma ih=>
  intro c vs H k h;cases c with
  |block id c=>simp only[Cc,nV];rw[ih c vs H _ h,Ew]
  |_=>exact h.elim
 |scope ma ih=>
  intro c vs H k h;cases c with
  |scope c=>simp only[Cc,nV];exact ih c vs H k h
  |_=>exact h.elim
 |loop f ma ih=>
  intro c vs H k h;cases c with
  |loop c=>
   obtain⟨h1,h2⟩:=h;simp only[Cc,nV];have:f=λvs H=>nV P C keep n c vs H fin:=by funext vs H;rw[←h2];exact ih c vs H fin h1
   rw[←this]
  |_=>exact h.elim
theorem Cd {P:Program}{C:ae}{n:Nat}{fn:Func}{keep:List Nat}{c:Code}(hc:fn.body=some c)(m:Mk (Value×aa))(h:rQ P C keep n m c (eh P fn.results.toList keep))(args:List Value)(H:aa):
  Ia P C n fn keep args H=Cc P C keep n m c (keep.map λt=>args.getD t undef) H (eh P fn.results.toList keep):=by
 unfold Ia;rw[hc];exact(Wl P C keep n m c _ H _ h).symm
end Go.Proofs.YtgfgglponbmgmaaGreatA.Am
end
section
namespace Go.Proofs.YtgfgglponbmgmaaGreat.Fun
open Go.RowKit Go.Proofs.YtgfgglponbmgmaaGreatA.Am
set_option maxRecDepth 10000
abbrev ca (vs:List Value)(i:Nat):Value:=sl [0,1,2,3,4,5,12,13,39,14,41,19,17,18,66,73,20,79,84,15,21,22,113,114,16,23,24,143] vs i
def Gy (C:ae)(n:Nat)(v0 v1 v2 v3 v4 v5 aW aT jB bo ij dw cZ cp fQ nN v20 iH jQ bQ cL eY ik gW bU fU eN il:Value)(H:aa):VH:= mv aT H λcm H=>af (C 15 [cm] H) λdM H=>mv dM H λdp H=>some (dp,H)
def Oj (C:ae)(n:Nat)(vs:List Value)(H:aa):VH:=Gy C n (ca vs 0) (ca vs 1) (ca vs 2) (ca vs 3) (ca vs 4) (ca vs 5) (ca vs 12) (ca vs 13) (ca vs 39) (ca vs 14) (ca vs 41) (ca vs 19) (ca vs 17) (ca vs 18) (ca vs 66) (ca vs 73) (ca vs 20) (ca vs 79) (ca vs 84) (ca vs 15) (ca vs 21) (ca vs 22) (ca vs 113) (ca vs 114) (ca vs 16) (ca vs 23) (ca vs 24) (ca vs 143) H
theorem RA (C:ae)(n:Nat)(v0 v1 v2 v3 v4 v5 aW aT jB bo ij dw cZ cp fQ nN v20 iH jQ bQ cL eY ik gW bU fU eN il:Value)(H:aa):Oj C n [v0,v1,v2,v3,v4,v5,aW,aT,jB,bo,ij,dw,cZ,cp,fQ,nN,v20,iH,jQ,bQ,cL,eY,ik,gW,bU,fU,eN,il] H=Gy C n v0 v1 v2 v3 v4 v5 aW aT jB bo ij dw cZ cp fQ nN v20 iH jQ bQ cL eY ik gW bU fU eN il H:=by
 kernel_rfl
def Gz (C:ae)(n:Nat)(v0 v1 v2 v3 v4 v5 aW aT jB bo ij dw cZ cp fQ nN v20 iH jQ bQ cL eY ik gW bU fU eN il:Value)(H:aa):bd:= mv dw H λeZ H=>af (pS (ai Tryz.prog .add 3 eZ (cv 1)) H) λdD H=>mv dD H λiz H=>fin .normal [v0,v1,v2,v3,v4,v5,aW,aT,jB,bo,ij,iz,cZ,cp,fQ,nN,v20,iH,jQ,bQ,cL,eY,ik,gW,bU,fU,eN,il] H
def AX (C:ae)(n:Nat)(vs:List Value)(H:aa):bd:=Gz C n (ca vs 0) (ca vs 1) (ca vs 2) (ca vs 3) (ca vs 4) (ca vs 5) (ca vs 12) (ca vs 13) (ca vs 39) (ca vs 14) (ca vs 41) (ca vs 19) (ca vs 17) (ca vs 18) (ca vs 66) (ca vs 73) (ca vs 20) (ca vs 79) (ca vs 84) (ca vs 15) (ca vs 21) (ca vs 22) (ca vs 113) (ca vs 114) (ca vs 16) (ca vs 23) (ca vs 24) (ca vs 143) H
theorem RB (C:ae)(n:Nat)(v0 v1 v2 v3 v4 v5 aW aT jB bo ij dw cZ cp fQ nN v20 iH jQ bQ cL eY ik gW bU fU eN il:Value)(H:aa):AX C n [v0,v1,v2,v3,v4,v5,aW,aT,jB,bo,ij,dw,cZ,cp,fQ,nN,v20,iH,jQ,bQ,cL,eY,ik,gW,bU,fU,eN,il] H=Gz C n v0 v1 v2 v3 v4 v5 aW aT jB bo ij dw cZ cp fQ nN v20 iH jQ bQ cL eY ik gW bU fU eN il H:=by
 kernel_rfl
def Ce (C:ae)(n:Nat)(v0 v1 v2 v3 v4 v5 aW aT jB bo ij dw cZ cp fQ nN v20 iH jQ bQ cL eY ik gW bU fU eN il:Value)(H:aa):bd:= aU gW (mv bU H λEA H=>mv aT H λtF H=>af (au tF H) λEB H=>af (ak 0 EB H) λCf H=>af (pS (aq Cf H) H) λxf H=>af (C 19 [EA,xf] H) λGA H=>mv GA H λDD H=>mv cp H λzQ H=>mv aT H λpN H=>af (au pN H) λtG H=>af (ak 1 tG H) λlH H=>af (pS (aq lH H) H) λfL H=>af (au fL H) λEC H=>af (ak 3 EC H) λu7 H=>af (pS (aq u7 H) H) λrR H=>af (C 20 [zQ,rR] H) λCg H=>mv Cg H λCh H=>mv DD H λGB aaD=>af (some (Ch,aaD)) λAh aaE=>af (pS (ai Tryz.prog .neq 4 GB Ah) aaE) λGC aaF=>af (some (GC,aaF)) λdW UM=>af (gd (ag dW false) (some (bU,UM)) UM) λKP Ie=>af (gd (ag dW false) (C 21 [KP] Ie) Ie) λCi Ig=>af (gd (ag dW false) (some (cp,Ig)) Ig) λlI UN=>af (gd (ag dW false) (au lI UN) UN) λGD Ih=>af (gd (ag dW false) (ak 23 GD Ih) Ih) λAi xg=>af (gd (ag dW false) (pS (aq Ai xg) xg) xg) λGF Ii=>af (gd (ag dW false) (pS (ai Tryz.prog .neq 4 Ci GF) Ii) Ii) λu9 AY=>af (aK dW (Value.bool true) u9 AY) λCj Ok=>if(kS (ag dW false) (ag dW false) (pS (aq Ai xg) xg) (pS (aq Ai Ie) Ie) (pS (aq Ai Ig) Ig)&&true)=true then(λH=>aU Cj (mv (Value.bool false) H λGG H=>fin .ret [v0,v1,v2,v3,v4,v5,GG,aT,jB,bo,ij,dw,cZ,cp,fQ,nN,v20,iH,jQ,bQ,cL,eY,ik,gW,bU,DD,Ch,Cj] H) (AX C n [v0,v1,v2,v3,v4,v5,aW,aT,jB,bo,ij,dw,cZ,cp,fQ,nN,v20,iH,jQ,bQ,cL,eY,ik,gW,bU,DD,Ch,Cj] H)) Ok else none) (mv aT H λGH H=>mv v20 H λKR H=>af (pS (ai Tryz.prog .quo 3 KR (cv 5)) H) λOl H=>af (C 22 [GH,Ol] H) λRC H=>AX C n [v0,v1,v2,v3,v4,v5,aW,aT,jB,bo,ij,dw,cZ,cp,fQ,nN,v20,iH,jQ,bQ,cL,eY,ik,gW,bU,fU,eN,il] H)
def ED (C:ae)(n:Nat)(vs:List Value)(H:aa):bd:=Ce C n (ca vs 0) (ca vs 1) (ca vs 2) (ca vs 3) (ca vs 4) (ca vs 5) (ca vs 12) (ca vs 13) (ca vs 39) (ca vs 14) (ca vs 41) (ca vs 19) (ca vs 17) (ca vs 18) (ca vs 66) (ca vs 73) (ca vs 20) (ca vs 79) (ca vs 84) (ca vs 15) (ca vs 21) (ca vs 22) (ca vs 113) (ca vs 114) (ca vs 16) (ca vs 23) (ca vs 24) (ca vs 143) H
theorem Ij (C:ae)(n:Nat)(v0 v1 v2 v3 v4 v5 aW aT jB bo ij dw cZ cp fQ nN v20 iH jQ bQ cL eY ik gW bU fU eN il:Value)(H:aa):ED C n [v0,v1,v2,v3,v4,v5,aW,aT,jB,bo,ij,dw,cZ,cp,fQ,nN,v20,iH,jQ,bQ,cL,eY,ik,gW,bU,fU,eN,il] H=Ce C n v0 v1 v2 v3 v4 v5 aW aT jB bo ij dw cZ cp fQ nN v20 iH jQ bQ cL eY ik gW bU fU eN il H:=by
 kernel_rfl
def Ck (C:ae)(n:Nat)(v0 v1 v2 v3 v4 v5 aW aT jB bo ij dw cZ cp fQ nN v20 iH jQ bQ cL eY ik gW bU fU eN il:Value)(H:aa):bd:= aU jQ (mv bQ H λeU H=>mv aT H λiZ H=>af (au iZ H) λj9 H=>af (ak 0 j9 H) λjg H=>af (pS (aq jg H) H) λfI H=>af (C 19 [eU,fI] H) λka H=>mv ka H λfM H=>mv cZ H λgR H=>mv aT H λlJ H=>af (au lJ H) λmW H=>af (ak 1 mW H) λmX H=>af (pS (aq mX H) H) λlE H=>af (au lE H) λgn H=>af (ak 3 gn H) λpO H=>af (pS (aq pO H) H) λmC H=>af (C 20 [gR,mC] H) λln H=>mv ln H λqV H=>mv fM H λiI Om=>af (some (qV,Om)) λlF KS=>af (pS (ai Tryz.prog .neq 4 iI lF) KS) λsU GI=>af (some (sU,GI)) λkr GJ=>af (gd (ag kr false) (some (bQ,GJ)) GJ) λuB tH=>af (gd (ag kr false) (C 21 [uB] tH) tH) λpo qG=>af (gd (ag kr false) (some (cZ,qG)) qG) λxh Cm=>af (gd (ag kr false) (au xh Cm) Cm) λuC GK=>af (gd (ag kr false) (ak 23 uC GK) GK) λva Aj=>af (gd (ag kr false) (pS (aq va Aj) Aj) Aj) λfE vb=>af (gd (ag kr false) (pS (ai Tryz.prog .neq 4 po fE) vb) vb) λxi RD=>af (aK kr (Value.bool true) xi RD) λzR Wm=>if(kS (ag kr false) (ag kr false) (pS (aq va Aj) Aj) (pS (aq va tH) tH) (pS (aq va qG) qG)&&true)=true then(λH=>aU zR (mv (Value.bool false) H λuD H=>fin .ret [v0,v1,v2,v3,v4,v5,uD,aT,jB,bo,ij,dw,cZ,cp,fQ,nN,v20,iH,jQ,bQ,fM,qV,zR,gW,bU,fU,eN,il] H) (AX C n [v0,v1,v2,v3,v4,v5,aW,aT,jB,bo,ij,dw,cZ,cp,fQ,nN,v20,iH,jQ,bQ,fM,qV,zR,gW,bU,fU,eN,il] H)) Wm else none) (af (pS (ai Tryz.prog .eql 3 iH (cv 2)) H) λOn H=>mv On H λKT H=>aU KT (ED C n [v0,v1,v2,v3,v4,v5,aW,aT,jB,bo,ij,dw,cZ,cp,fQ,nN,v20,iH,jQ,bQ,cL,eY,ik,KT,bU,fU,eN,il] H) (af (pS (ai Tryz.prog .eql 3 iH (cv 3)) H) λEE H=>mv EE H λOo H=>ED C n [v0,v1,v2,v3,v4,v5,aW,aT,jB,bo,ij,dw,cZ,cp,fQ,nN,v20,iH,jQ,bQ,cL,eY,ik,Oo,bU,fU,eN,il] H))
def EF (C:ae)(n:Nat)(vs:List Value)(H:aa):bd:=Ck C n (ca vs 0) (ca vs 1) (ca vs 2) (ca vs 3) (ca vs 4) (ca vs 5) (ca vs 12) (ca vs 13) (ca vs 39) (ca vs 14) (ca vs 41) (ca vs 19) (ca vs 17) (ca vs 18) (ca vs 66) (ca vs 73) (ca vs 20) (ca vs 79) (ca vs 84) (ca vs 15) (ca vs 21) (ca vs 22) (ca vs 113) (ca vs 114) (ca vs 16) (ca vs 23) (ca vs 24) (ca vs 143) H
theorem Ik (C:ae)(n:Nat)(v0 v1 v2 v3 v4 v5 aW aT jB bo ij dw cZ cp fQ nN v20 iH jQ bQ cL eY ik gW bU fU eN il:Value)(H:aa):EF C n [v0,v1,v2,v3,v4,v5,aW,aT,jB,bo,ij,dw,cZ,cp,fQ,nN,v20,iH,jQ,bQ,cL,eY,ik,gW,bU,fU,eN,il] H=Ck C n v0 v1 v2 v3 v4 v5 aW aT jB bo ij dw cZ cp fQ nN v20 iH jQ bQ cL eY ik gW bU fU eN il H:=by
 kernel_rfl
def GL (C:ae)(n:Nat)(v0 v1 v2 v3 v4 v5 aW aT jB bo ij dw cZ cp fQ nN v20 iH jQ bQ cL eY ik gW bU fU eN il:Value)(H:aa):bd:= mv v20 H λim H=>af (C 18 [im,(cv 5)] H) λgD H=>af (pS (ai Tryz.prog .eql 3 gD (cv 0)) H) λRE H=>mv RE H λKU H=>aU KU (EF C n [v0,v1,v2,v3,v4,v5,aW,aT,jB,bo,ij,dw,cZ,cp,fQ,nN,v20,gD,KU,bQ,cL,eY,ik,gW,bU,fU,eN,il] H) (af (pS (ai Tryz.prog .eql 3 gD (cv 1)) H) λWn H=>mv Wn H λWo H=>EF C n [v0,v1,v2,v3,v4,v5,aW,aT,jB,bo,ij,dw,cZ,cp,fQ,nN,v20,gD,Wo,bQ,cL,eY,ik,gW,bU,fU,eN,il] H)
def EG (C:ae)(n:Nat)(vs:List Value)(H:aa):bd:=GL C n (ca vs 0) (ca vs 1) (ca vs 2) (ca vs 3) (ca vs 4) (ca vs 5) (ca vs 12) (ca vs 13) (ca vs 39) (ca vs 14) (ca vs 41) (ca vs 19) (ca vs 17) (ca vs 18) (ca vs 66) (ca vs 73) (ca vs 20) (ca vs 79) (ca vs 84) (ca vs 15) (ca vs 21) (ca vs 22) (ca vs 113) (ca vs 114) (ca vs 16) (ca vs 23) (ca vs 24) (ca vs 143) H
theorem RF (C:ae)(n:Nat)(v0 v1 v2 v3 v4 v5 aW aT jB bo ij dw cZ cp fQ nN v20 iH jQ bQ cL eY ik gW bU fU eN il:Value)(H:aa):EG C n [v0,v1,v2,v3,v4,v5,aW,aT,jB,bo,ij,dw,cZ,cp,fQ,nN,v20,iH,jQ,bQ,cL,eY,ik,gW,bU,fU,eN,il] H=GL C n v0 v1 v2 v3 v4 v5 aW aT jB bo ij dw cZ cp fQ nN v20 iH jQ bQ cL eY ik gW bU fU eN il H:=by
 kernel_rfl
def GM (C:ae)(n:Nat)(v0 v1 v2 v3 v4 v5 aW aT jB bo ij dw cZ cp fQ nN v20 iH jQ bQ cL eY ik gW bU fU eN il:Value)(H:aa):bd:= mv dw H λcC H=>af (pS (ai Tryz.prog .lss 3 cC (cv 60)) H) λcM H=>mv cM H λek H=>af (gd (ag ek true) (some (cZ,H)) H) λdU H=>af (gd (ag ek true) (au dU H) H) λeu H=>af (gd (ag ek true) (ak 23 eu H) H) λdQ H=>af (gd (ag ek true) (pS (aq dQ H) H) H) λdy H=>af (gd (ag ek true) (some (dy,H)) H) λde H=>af (gd (ag de true) (some (cp,H)) H) λcV H=>af (gd (ag de true) (au cV H) H) λcH H=>af (gd (ag de true) (ak 23 cH H) H) λeG H=>af (gd (ag de true) (pS (aq eG H) H) H) λeo H=>af (gd (ag ek true) (aK de eo (Value.bool false) H) H) λdZ H=>af (gd (ag ek true) (pS (iG .not dZ) H) H) λdT H=>af (aK ek dT (Value.bool false) H) λeI H=>aU eI (mv dw H λer H=>mv er H λgE H=>mv dw H λWp H=>mv v5 H λWq H=>af (pS (cE Wq) H) λWr H=>af (pS (ai Tryz.prog .lss 3 Wp Wr) H) λOq H=>aU Oq (mv v5 H λWs H=>mv dw H λEH H=>af (cK 1 Ws EH H) λWt H=>af (pS (aq Wt H) H) λWu H=>mv Wu H λWv H=>EG C n [v0,v1,v2,v3,v4,v5,aW,aT,jB,bo,ij,dw,cZ,cp,eI,Oq,Wv,iH,jQ,bQ,cL,eY,ik,gW,bU,fU,eN,il] H) (EG C n [v0,v1,v2,v3,v4,v5,aW,aT,jB,bo,ij,dw,cZ,cp,eI,Oq,gE,iH,jQ,bQ,cL,eY,ik,gW,bU,fU,eN,il] H)) (fin (.exit 0) [v0,v1,v2,v3,v4,v5,aW,aT,jB,bo,ij,dw,cZ,cp,eI,nN,v20,iH,jQ,bQ,cL,eY,ik,gW,bU,fU,eN,il] H)
def Il (C:ae)(n:Nat)(vs:List Value)(H:aa):bd:=GM C n (ca vs 0) (ca vs 1) (ca vs 2) (ca vs 3) (ca vs 4) (ca vs 5) (ca vs 12) (ca vs 13) (ca vs 39) (ca vs 14) (ca vs 41) (ca vs 19) (ca vs 17) (ca vs 18) (ca vs 66) (ca vs 73) (ca vs 20) (ca vs 79) (ca vs 84) (ca vs 15) (ca vs 21) (ca vs 22) (ca vs 113) (ca vs 114) (ca vs 16) (ca vs 23) (ca vs 24) (ca vs 143) H
theorem RG (C:ae)(n:Nat)(v0 v1 v2 v3 v4 v5 aW aT jB bo ij dw cZ cp fQ nN v20 iH jQ bQ cL eY ik gW bU fU eN il:Value)(H:aa):Il C n [v0,v1,v2,v3,v4,v5,aW,aT,jB,bo,ij,dw,cZ,cp,fQ,nN,v20,iH,jQ,bQ,cL,eY,ik,gW,bU,fU,eN,il] H=GM C n v0 v1 v2 v3 v4 v5 aW aT jB bo ij dw cZ cp fQ nN v20 iH jQ bQ cL eY ik gW bU fU eN il H:=by
 kernel_rfl
def UO (C:ae)(n:Nat):Mk (Value×aa):= (.seq .leaf (.seq .leaf (.seq .leaf (.seq (.seq .leaf (.cond (.seq .leaf .leaf) .leaf)) (.seq (.seq .leaf (.cond (.seq .leaf .leaf) .leaf)) (.seq .leaf (.seq .leaf (.oL (.seq .leaf (.block (.loop (Il C n) (.seq (.seq .leaf (.cond .leaf .leaf)) (.oL (.block (.seq .leaf (.oL (.seq .leaf (.cond .leaf .leaf)) (EG C n) (.seq .leaf (.block (.oL (.seq .leaf (.cond .leaf .leaf)) (EF C n) (.cond (.seq .leaf (.seq .leaf (.seq .leaf (.cond (.seq .leaf .leaf) .leaf)))) (.oL (.seq .leaf (.cond .leaf .leaf)) (ED C n) (.cond (.seq .leaf (.seq .leaf (.seq .leaf (.cond (.seq .leaf .leaf) .leaf)))) .leaf))))))))) (AX C n) .leaf))))) (Oj C n) (.seq .leaf .leaf)))))))))
theorem aaG (C:ae)(n:Nat){c:Code}(hc:Tryz.f3.body=some c):rQ Tryz.prog C [0,1,2,3,4,5,12,13,39,14,41,19,17,18,66,73,20,79,84,15,21,22,113,114,16,23,24,143] n (UO C n) c (eh Tryz.prog Tryz.f3.results.toList [0,1,2,3,4,5,12,13,39,14,41,19,17,18,66,73,20,79,84,15,21,22,113,114,16,23,24,143]):=by
 cases hc;exact(And.intro True.intro (And.intro True.intro (And.intro True.intro (And.intro (And.intro True.intro (And.intro (And.intro True.intro True.intro) True.intro)) (And.intro (And.intro True.intro (And.intro (And.intro True.intro True.intro) True.intro)) (And.intro True.intro (And.intro True.intro (And.intro (And.intro True.intro (And.intro (And.intro (And.intro True.intro (And.intro True.intro True.intro)) (And.intro (And.intro True.intro (And.intro (And.intro True.intro (And.intro True.intro True.intro)) (And.intro (And.intro True.intro (And.intro (And.intro True.intro (And.intro True.intro True.intro)) (And.intro (And.intro (And.intro True.intro (And.intro True.intro (And.intro True.intro (And.intro (And.intro True.intro True.intro) True.intro)))) (And.intro (And.intro True.intro (And.intro True.intro True.intro)) (And.intro (And.intro (And.intro True.intro (And.intro True.intro (And.intro True.intro (And.intro (And.intro True.intro True.intro) True.intro)))) True.intro) (λvs H=>by kernel_rfl)))) (λvs H=>by kernel_rfl)))) (λvs H=>by kernel_rfl)))) (And.intro True.intro (λvs H=>by kernel_rfl)))) (λvs H=>by kernel_rfl))) (And.intro (And.intro True.intro True.intro) (λvs H=>by kernel_rfl))))))))))
def F3 (C:ae)(n:Nat)(a0 a1 a2 a3 a4 a5:Value)(H:aa):VH:= mv (Value.bool false) H λx0 H=>mv a0 H λx1 H=>mv a1 H λx2 H=>mv a2 H λx3 H=>af (C 12 [x1,x2,x3] H) λx4 H=>mv x4 H λx5 H=>mv x5 H λx6 H=>mv a3 H λx7 H=>mv a4 H λx8 H=>af (C 13 [x6,x7,x8] H) λx9 H=>mv x9 H λaC H=>af (C 14 [] H) λaO H=>af (pS (iG .not aO) H) λaN H=>mv aN H λaI H=>af (gd (ag aI false) (some (x5,H)) H) λaM H=>af (gd (ag aI false) (C 15 [aM] H) H) λaS H=>af (gd (ag aI false) (pS (iG .not aS) H) H) λbf H=>af (aK aI (Value.bool true) bf H) λaZ H=>aU aZ (mv (Value.bool false) H λaX H=>some (aX,H)) (mv aC H λbz H=>af (pS (ai Tryz.prog .eql 3 bz (cv 0)) H) λbT H=>aU bT (mv (Value.bool true) H λbl H=>some (bl,H)) (mv aC H λbB H=>af (C 16 [bB] H) λbL H=>mv aC H λbR H=>af (C 16 [bR] H) λbX H=>mv bL H λcg H=>mv bX H λcN H=>mv aC H λcd H=>af (pS (aE Tryz.prog 41 [(0,cd)]) H) λbV H=>af (C 17 [(cv 12),bV] H) λcq H=>mv aC H λcR H=>af (pS (aE Tryz.prog 41 [(0,cR)]) H) λbN H=>af (C 17 [(cv 12),bN] H) λcu H=>mv cq H λdE H=>mv cu H λbJ H=>mv (cv 0) H λcU H=>cl (iter n (Il C n) [a0,a1,a2,a3,a4,a5,x0,x5,aZ,aC,bT,cU,dE,bJ,undef,undef,undef,undef,undef,cg,undef,undef,undef,undef,cN,undef,undef,undef] H) (dK 0 (dS (Oj C n) (eh Tryz.prog [.tmp 12] [0,1,2,3,4,5,12,13,39,14,41,19,17,18,66,73,20,79,84,15,21,22,113,114,16,23,24,143])))))
theorem aaH (G:ae)(n:Nat)(a0 a1 a2 a3 a4 a5:Value)(H:aa):run G (n+1) 3 [a0,a1,a2,a3,a4,a5] H=F3 (run G n) n a0 a1 a2 a3 a4 a5 H:=by
 unfold run;rw[ao (fn:=Tryz.f3) (keep:=[0,1,2,3,4,5,12,13,39,14,41,19,17,18,66,73,20,79,84,15,21,22,113,114,16,23,24,143]) (av 3 rfl) (by kernel_rfl) (by kernel_rfl)]
 rw[Cd rfl (UO _ n) (aaG _ n rfl)];kernel_rfl
end Go.Proofs.YtgfgglponbmgmaaGreat.Fun
end
