/- Texts of the proof of helpLogic_holds, put together by a small program of ours (names shortened, spaces taken out). No condition beyond the given statement. -/
import Derived.Test.YtgfgglponbmgmaaGreatHLG9
set_option linter.unusedVariables false
set_option linter.unusedSimpArgs false
set_option linter.unnecessarySimpa false
noncomputable section
section
namespace Go.Proofs.YtgfgglponbmgmaaGreatA.Am
abbrev At {α:Type}(kb:List Value→aa→Option α)(k:bE→List Value→aa→Option α):bE→List Value→aa→Option α:=
 λe vs H=>match e with
  | .normal=>kb vs H
  |e=>k e vs H
abbrev GH {α:Type}(id:Nat)(k:bE→List Value→aa→Option α):bE→List Value→aa→Option α:=
 λe vs H=>match e with
  | .exit i=>if i=id then k .normal vs H else k (.exit i) vs H
  |e=>k e vs H
theorem wI {α:Type}(kb:List Value→aa→Option α)(k:bE→List Value→aa→Option α):At kb k=dM kb k:=rfl
theorem DI {α:Type}(id:Nat)(k:bE→List Value→aa→Option α):GH id k=dG id k:=rfl
abbrev DJ {α:Type}(P:Program)(C:ae)(ops:Array Oper):List Oper→Env→aa→(Env→aa→Option α)→Option α
 | [],E,H,k=>k E H
 |o::r,E,H,k=>af (match o.guard with
   |none=>gk P C E H o
   |some _=>gd (dB ops o E) (gk P C E H o) H) λv H'=>DJ P C ops r (E.put o.dst v) H' k
theorem MQ {α:Type}(P:Program)(C:ae)(ops:Array Oper)(l:List Oper)(E:Env)(H:aa)(k:Env→aa→Option α):DJ P C ops l E H k=Fs P C ops l E H k:=by
 induction l generalizing E H with
 |nil=>rfl
 |cons o r ih=>simp only[DJ,Fs,ih];rfl
abbrev BF {α:Type}(P:Program)(C:ae)(ops:Array Oper):List Oper→Env→aa→List (Env×aa)→(Env→aa→List (Env×aa)→Option α)→Option α
 | [],E,H,T,k=>k E H (T++[(E,H)])
 |o::r,E,H,T,k=>af (match o.guard with
   |none=>gk P C E H o
   |some _=>gd (dB ops o E) (gk P C E H o) H) λv H'=>BF P C ops r (E.put o.dst v) H' (T++[(E,H)]) k
theorem Jg {α:Type}(P:Program)(C:ae)(ops:Array Oper)(l:List Oper)(E:Env)(H:aa)(T:List (Env×aa))(k:Env→aa→List (Env×aa)→Option α):BF P C ops l E H T k=Ap P C ops l E H T k:=by
 induction l generalizing E H T with
 |nil=>rfl
 |cons o r ih=>simp only[BF,Ap,ih];rfl
abbrev BG {α:Type}(P:Program)(C:ae)(F:List Nat)(base:Nat)(ops:Array Oper):List Oper→Nat→Env→aa→(Env→aa→Option α)→Option α
 | [],_,E,H,k=>k E H
 |o::r,j,E,H,k=>af (match o.guard with
   |none=>du P C F base j E H o
   |some _=>gd (dB ops o E) (du P C F base j E H o) H) λv H'=>BG P C F base ops r (j+1) (E.put o.dst v) H' k
theorem Jh {α:Type}(P:Program)(C:ae)(F:List Nat)(base:Nat)(ops:Array Oper)(l:List Oper)(j:Nat)(E:Env)(H:aa)(k:Env→aa→Option α):BG P C F base ops l j E H k=Aq P C F base ops l j E H k:=by
 induction l generalizing j E H with
 |nil=>rfl
 |cons o r ih=>simp only[BG,Aq,ih];rfl
abbrev u7 {α:Type}(P:Program)(C:ae)(F:List Nat)(base:Nat)(ops:Array Oper):List Oper→Nat→Env→aa→List (Env×aa)→(Env→aa→List (Env×aa)→Option α)→Option α
 | [],_,E,H,T,k=>k E H (T++[(E,H)])
 |o::r,j,E,H,T,k=>af (match o.guard with
   |none=>du P C F base j E H o
   |some _=>gd (dB ops o E) (du P C F base j E H o) H) λv H'=>u7 P C F base ops r (j+1) (E.put o.dst v) H' (T++[(E,H)]) k
theorem FA {α:Type}(P:Program)(C:ae)(F:List Nat)(base:Nat)(ops:Array Oper)(l:List Oper)(j:Nat)(E:Env)(H:aa)(T:List (Env×aa))(k:Env→aa→List (Env×aa)→Option α):u7 P C F base ops l j E H T k=sX P C F base ops l j E H T k:=by
 induction l generalizing j E H T with
 |nil=>rfl
 |cons o r ih=>simp only[u7,sX,ih];rfl
abbrev wJ {α:Type}(P:Program)(C:ae)(ops:Array Oper)(draw:Bool)(E:Env)(H:aa)(k:Env→aa→Option α):Option α:=
 if draw then
  match lG P ops with
  | []=>match mq P ops with
   | []=>DJ P C ops ops.toList E H k
   |cs=>BF P C ops ops.toList E H [] λE' H' T=>if cs.all (iH P ops T) then k E' H' else none
  |F=>sY F.length H λbase H=>match mq P ops with
   | []=>BG P C F base ops ops.toList 0 E H k
   |cs=>u7 P C F base ops ops.toList 0 E H [] λE' H' T=>if cs.all (iH P ops T) then k E' H' else none
 else DJ P C ops ops.toList E H k
theorem DK {α:Type}(P:Program)(C:ae)(ops:Array Oper)(draw:Bool)(E:Env)(H:aa)(k:Env→aa→Option α):wJ P C ops draw E H k=rC P C ops draw E H k:=by
 simp only[wJ,rC,MQ,Jg,Jh,FA];rfl
inductive Mk:Type→Type 1 where
 |leaf {α:Type}:Mk α
 |seq {α:Type} (a b:Mk α):Mk α
 |uL {α:Type} (a:Mk α) (J:List Value→aa→Option α) (b:Mk α):Mk α
 |cond {α:Type} (a b:Mk α):Mk α
 |block {α:Type} (a:Mk α):Mk α
 |scope {α:Type} (a:Mk α):Mk α
 |loop {α:Type} (f:List Value→aa→bn) (a:Mk (bE×List Value×aa)):Mk α
abbrev Ji (P:Program)(C:ae)(keep:List Nat)(n:Nat):{α:Type}→Code→List Value→aa→(bE→List Value→aa→Option α)→Option α
 |_,.skip,vs,H,k=>k .normal vs H
 |_,.label _,vs,H,k=>k .normal vs H
 |_,.region _ ops draw,vs,H,k=>wJ P C ops draw (keep.zip vs) H λE H'=>k .normal (keep.map E.get) H'
 |_,.seq a b,vs,H,k=>Ji P C keep n a vs H (At (λiU H'=>Ji P C keep n b iU H' k) k)
 |_,.cond c a b,vs,H,k=>aV (n3 (keep.zip vs) c) (Ji P C keep n a vs H k) (Ji P C keep n b vs H k)
 |_,.block id c,vs,H,k=>Ji P C keep n c vs H (GH id k)
 |_,.loop c,vs,H,k=>cd (iter n (λvs H=>nO P C keep n c vs H fin) vs H) k
 |_,.exit id,vs,H,k=>k (.exit id) vs H
 |_,.scope c,vs,H,k=>Ji P C keep n c vs H k
 |_,.ret,vs,H,k=>k .ret vs H
 |_,.goto _,_,_,_=>none
 |_,.rangeFunc g ps x y,vs,H,k=>DH (UJ P.funcs.size C (n3 (keep.zip vs) g) ⟨keep,vs,ps,x,y⟩ H) λe H'=>k e vs H'
 |_,.refuse _,_,_,_=>none
theorem UN (P:Program)(C:ae)(keep:List Nat)(n:Nat)(c:Code): ∀{α:Type} (vs:List Value) (H:aa) (k:bE→List Value→aa→Option α),
  Ji P C keep n c vs H k=nO P C keep n c vs H k:=by
 induction c with
 |region p ops draw=>intros;simp only[Ji,nO,DK]
 |seq a b I9 Ja=>intros;simp only[Ji,nO,I9,Ja,wI]
 |cond c a b I9 Ja=>intros;simp only[Ji,nO,I9,Ja]
 |block id c ih=>intros;simp only[Ji,nO,ih,DI]
 |scope c ih=>intros;simp only[Ji,nO,ih]
 |_=>intros;rfl
abbrev BH (P:Program)(C:ae)(keep:List Nat)(n:Nat):{α:Type}→Mk α→Code→List Value→aa→(bE→List Value→aa→Option α)→Option α
 |_,.seq ma mb,.seq a b,vs,H,k=>BH P C keep n ma a vs H (At (λiU H'=>BH P C keep n mb b iU H' k) k)
 |_,.uL ma J _,.seq a _,vs,H,k=>BH P C keep n ma a vs H (At J k)
 |_,.cond ma mb,.cond c a b,vs,H,k=>aV (n3 (keep.zip vs) c) (BH P C keep n ma a vs H k) (BH P C keep n mb b vs H k)
 |_,.block ma,.block id c,vs,H,k=>BH P C keep n ma c vs H (GH id k)
 |_,.scope ma,.scope c,vs,H,k=>BH P C keep n ma c vs H k
 |_,.loop f _,.loop _,vs,H,k=>cd (iter n f vs H) k
 |_,_,c,vs,H,k=>Ji P C keep n c vs H k
def td (P:Program)(C:ae)(keep:List Nat)(n:Nat):{α:Type}→Mk α→Code→(bE→List Value→aa→Option α)→Prop
 |_,.seq ma mb,.seq a b,k=>td P C keep n ma a (At (λiU H'=>BH P C keep n mb b iU H' k) k)∧td P C keep n mb b k
 |_,.uL ma J mb,.seq a b,k=>td P C keep n ma a (At J k)∧td P C keep n mb b k∧∀vs H,BH P C keep n mb b vs H k=J vs H
 |_,.cond ma mb,.cond _ a b,k=>td P C keep n ma a k∧td P C keep n mb b k
 |_,.block ma,.block id c,k=>td P C keep n ma c (GH id k)
 |_,.scope ma,.scope c,k=>td P C keep n ma c k
 |_,.loop f ma,.loop c,_=>td P C keep n ma c fin∧∀vs H,BH P C keep n ma c vs H fin=f vs H
 |_,.leaf,_,_=>True
 |_,_,_,_=>False
theorem UO (P:Program)(C:ae)(keep:List Nat)(n:Nat){α:Type}(m:Mk α): ∀(c:Code) (vs:List Value) (H:aa) (k:bE→List Value→aa→Option α),
  td P C keep n m c k→BH P C keep n m c vs H k=nO P C keep n c vs H k:=by
 induction m with
 |leaf=>intro c vs H k _;cases c<;>exact UN ..
 |seq ma mb I9 Ja=>
  intro c vs H k h;cases c with
  |seq a b=>
   obtain⟨h1,h2⟩:=h;simp only[BH,nO];rw[I9 a vs H _ h1];have:(λiU H'=>BH P C keep n mb b iU H' k)=λiU H'=>nO P C keep n b iU H' k:=by funext iU H';exact Ja b iU H' k h2
   rw[this,wI]
  |_=>exact h.elim
 |uL ma J mb I9 Ja=>
  intro c vs H k h;cases c with
  |seq a b=>
   obtain⟨h1,h2,h3⟩:=h;simp only[BH,nO];rw[I9 a vs H _ h1];have:J=λiU H'=>nO P C keep n b iU H' k:=by funext iU H';rw[←h3];exact Ja b iU H' k h2
   rw[←this,wI]
  |_=>exact h.elim
 |cond ma mb I9 Ja=>
  intro c vs H k h;cases c with
  |cond c a b=>obtain⟨h1,h2⟩:=h;simp only[BH,nO];rw[I9 a vs H k h1,Ja b vs H k h2]
  |_=>exact h.elim
 |block ma ih=>
  intro c vs H k h;cases c with
  |block id c=>simp only[BH,nO];rw[ih c vs H _ h,DI]
  |_=>exact h.elim
 |scope ma ih=>
  intro c vs H k h;cases c with
  |scope c=>simp only[BH,nO];exact ih c vs H k h
  |_=>exact h.elim
 |loop f ma ih=>
  intro c vs H k h;cases c with
  |loop c=>
   obtain⟨h1,h2⟩:=h;simp only[BH,nO];have:f=λvs H=>nO P C keep n c vs H fin:=by funext vs H;rw[←h2];exact ih c vs H fin h1
   rw[←this]
  |_=>exact h.elim
theorem GI {P:Program}{C:ae}{n:Nat}{fn:Func}{keep:List Nat}{c:Code}(hc:fn.body=some c)(m:Mk (Value×aa))(h:td P C keep n m c (dX P fn.results.toList keep))(args:List Value)(H:aa):
  GB P C n fn keep args H=BH P C keep n m c (keep.map λt=>args.getD t undef) H (dX P fn.results.toList keep):=by
 unfold GB;rw[hc];exact(UO P C keep n m c _ H _ h).symm
end Go.Proofs.YtgfgglponbmgmaaGreatA.Am
end
section
namespace Go.Proofs.YtgfgglponbmgmaaGreat.Fun
open Go.RowKit Go.Proofs.YtgfgglponbmgmaaGreatA.Am
set_option maxRecDepth 10000
def F20 (C:ae)(n:Nat)(a0 a1:Value)(H:aa):VH:= mv (Value.bool false) H λx0 H=>mv a0 H λx1 H=>af (au x1 H) λx2 H=>af (al 23 x2 H) λx3 H=>af (pS (aq x3 H) H) λx4 H=>aV x4 (mv (Value.bool true) H λx5 H=>some (x5,H)) (mv a0 H λx6 H=>af (C 70 [x6] H) λx7 H=>mv x7 H λx8 H=>af (cg 0 x8 H) λx9 H=>af (cg 1 x8 H) λaC H=>af (some (aS H 49 1 [(cv 0),(Value.bool false),(cv 0),(cv 0),(cv 0),(Value.slice none 0 0),(Value.slice none 0 0),(cv 0),(Value.bool false),(cv 0),(cv 0),(cv 0),(Value.slice none 0 0)])) λaO H=>mv x9 H λaN H=>af (bD 13 aO aC H) λaI H=>mv a0 H λaM BL=>af (some (a0,BL)) λaT uM=>af (au aT uM) λaW DM=>af (al 22 aW DM) λbf rG=>af (pS (aq bf rG) rG) λaU wP=>af (some (a1,wP)) λbz rH=>af (some (aN,rH)) λbM rI=>af (au bM rI) λbl rJ=>af (al 3 bl rJ) λbA wQ=>af (pS (cZ 5 bA wQ) wQ) λbF mZ=>af (C 71 [bz,bF] mZ) λbO nT=>af (ay Tryz.prog 42 1 [(0,bO)] nT) λbU uN=>af (de 2 1 8 aU bU uN) λbZ uO=>af (au aM uO) λcE DN=>af (al 22 cE DN) λcN tm=>af (bD 1 cN bZ tm) λbS tq=>if(lr (some true) (some true) (pS (aq bf rG) rG) (pS (aq bf mZ) mZ) (pS (aq bf nT) nT)&&(lr (some true) (some true) (pS (aq bf rG) rG) (pS (aq bf nT) nT) (pS (aq bf uN) uN)&&true))=true then(λH=>mv a0 H λcr H=>af (C 69 [cr] H) λcM H=>mv a0 H λbR H=>af (au bR H) λcq H=>af (al 23 cq H) λdC H=>af (pS (aq dC H) H) λbP H=>mv bP H λcj H=>some (cj,H)) tq else none)
theorem U6 (G:ae)(n:Nat)(a0 a1:Value)(H:aa):run G (n+1) 20 [a0,a1] H=F20 (run G n) n a0 a1 H:=by
 unfold run;rw[an (fn:=Tryz.f20) (keep:=[0,1,4,10,5]) (av 20 rfl) (by kernel_rfl) (by kernel_rfl)]
 kernel_rfl
def F59 (C:ae)(n:Nat)(a0 a1:Value)(H:aa):VH:= mv (cv 0) H λx0 H=>mv a0 H λx1 H=>af (pS (ai Tryz.prog .lss 3 x1 (cv 1)) H) λx2 H=>mv x2 H λx3 H=>af (gd (ag x3 false) (some (a0,H)) H) λx4 H=>af (gd (ag x3 false) (pS (ai Tryz.prog .gtr 3 x4 (cv 5)) H) H) λx5 H=>af (aK x3 (Value.bool true) x5 H) λx6 H=>mv x6 H λx7 H=>af (gd (ag x7 false) (some (a1,H)) H) λx8 H=>af (gd (ag x7 false) (pS (ai Tryz.prog .lss 3 x8 (cv 1)) H) H) λx9 H=>af (aK x7 (Value.bool true) x9 H) λaC H=>mv aC H λaO H=>af (gd (ag aO false) (some (a1,H)) H) λaN H=>af (gd (ag aO false) (pS (ai Tryz.prog .gtr 3 aN (cv 65536)) H) H) λaI H=>af (aK aO (Value.bool true) aI H) λaM H=>aV aM (mv (cv 0) H λaT H=>some (aT,H)) (mv a1 H λaW H=>af (pS (ai Tryz.prog .mul 3 (cv 8) aW) H) λbf H=>mv a0 H λaU H=>af (pS (ai Tryz.prog .add 3 bf aU) H) λbz H=>mv bz H λbM H=>some (bM,H))
theorem U9 (G:ae)(n:Nat)(a0 a1:Value)(H:aa):run G (n+1) 59 [a0,a1] H=F59 (run G n) n a0 a1 H:=by
 unfold run;rw[an (fn:=Tryz.f59) (keep:=[0,1,4,18]) (av 59 rfl) (by kernel_rfl) (by kernel_rfl)]
 kernel_rfl
def F66 (C:ae)(n:Nat)(a0 a1 a2 a3:Value)(H:aa):VH:= mv (Value.bool false) H λx0 H=>mv a0 H λx1 H=>mv a1 H λx2 H=>af (C 94 [x1,x2] H) λx3 H=>mv x3 H λx4 H=>mv x4 H λx5 H=>af (pS (ai Tryz.prog .eql 149 x5 (Value.pointer none)) H) λx6 H=>mv x6 H λx7 H=>af (gd (ag x7 false) (some (x4,H)) H) λx8 H=>af (gd (ag x7 false) (au x8 H) H) λx9 H=>af (gd (ag x7 false) (pS (aq x9 H) H) H) λaC H=>af (gd (ag x7 false) (some (a2,H)) H) λaO H=>af (gd (ag x7 false) (pS (ai Tryz.prog .neq 2 aC aO) H) H) λaN H=>af (aK x7 (Value.bool true) aN H) λaI H=>aV aI (mv (Value.bool false) H λaM H=>some (aM,H)) (mv x4 H λaT H=>mv a3 H λaW H=>af (au aT H) λbf H=>af (bD 1 bf aW H) λaU H=>mv (Value.bool true) H λbz H=>some (bz,H))
theorem aeJ (G:ae)(n:Nat)(a0 a1 a2 a3:Value)(H:aa):run G (n+1) 66 [a0,a1,a2,a3] H=F66 (run G n) n a0 a1 a2 a3 H:=by
 unfold run;rw[an (fn:=Tryz.f66) (keep:=[0,1,2,3,8,9,21]) (av 66 rfl) (by kernel_rfl) (by kernel_rfl)]
 kernel_rfl
abbrev Qu (vs:List Value)(i:Nat):Value:=sl [0,2,3,8] vs i
def BQ (C:ae)(n:Nat)(v0 v2 v3 v8:Value)(H:aa):VH:= mv v0 H λx5 H=>af (pS (ai Tryz.prog .quo 3 x5 (cv 14)) H) λx6 H=>mv x6 H λx7 H=>mv v3 H λx8 H=>mv x7 H λx9 H=>af (C 18 [x9,(cv 41)] H) λaC H=>af (pS (ai Tryz.prog .sub 3 aC (cv 10)) H) λaO H=>mv x7 H λaN H=>af (pS (ai Tryz.prog .quo 3 aN (cv 41)) H) λaI H=>af (C 18 [aI,(cv 50)] H) λaM H=>af (pS (aF Tryz.prog 39 [(0,x8),(1,aO),(2,aM)]) H) λaT H=>af (bD 3 v2 aT H) λaW H=>af (pS (cZ 3 v2 H) H) λr0 _=>some (r0,H)
def BR (C:ae)(n:Nat)(vs:List Value)(H:aa):VH:=BQ C n (Qu vs 0) (Qu vs 2) (Qu vs 3) (Qu vs 8) H
theorem MZ (C:ae)(n:Nat)(v0 v2 v3 v8:Value)(H:aa):BR C n [v0,v2,v3,v8] H=BQ C n v0 v2 v3 v8 H:=by
 kernel_rfl
def F73 (C:ae)(n:Nat)(a0:Value)(H:aa):VH:= af (some (aS H 39 1 [(cv 0),(cv 0),(cv 0)])) λx0 H=>mv a0 H λx1 H=>af (C 18 [x1,(cv 14)] H) λx2 H=>af (pS (ai Tryz.prog .add 3 (cv 1) x2) H) λx3 H=>mv x3 H λx4 H=>mv x4 H λbf H=>af (pS (ai Tryz.prog .gtr 3 bf (cv 10)) H) λaU H=>aV aU (mv x4 H λbz H=>af (C 18 [bz,(cv 3)] H) λbM H=>af (pS (ai Tryz.prog .add 3 (cv 1) bM) H) λbl H=>mv bl H λbA H=>BR C n [a0,x0,bA,aU] H) (BR C n [a0,x0,x4,aU] H)
theorem Va (G:ae)(n:Nat)(a0:Value)(H:aa):run G (n+1) 73 [a0] H=F73 (run G n) n a0 H:=by
 unfold run;rw[an (fn:=Tryz.f73) (keep:=[0,2,3,8]) (av 73 rfl) (by kernel_rfl) (by kernel_rfl)]
 kernel_rfl
def F78 (C:ae)(n:Nat)(a0 a1 a2:Value)(H:aa):VH:= mv a0 H λx0 H=>mv a1 H λx1 H=>af (C 94 [x0,x1] H) λx2 H=>mv x2 H λx3 H=>mv x3 H λx4 H=>af (pS (ai Tryz.prog .neq 149 x4 (Value.pointer none)) H) λx5 H=>aV x5 (mv x3 H λx6 H=>mv a2 H λx7 H=>af (au x6 H) λx8 H=>af (bD 1 x8 x7 H) λx9 H=>some (Value.tuple #[],H)) (some (Value.tuple #[],H))
theorem Vb (G:ae)(n:Nat)(a0 a1 a2:Value)(H:aa):run G (n+1) 78 [a0,a1,a2] H=F78 (run G n) n a0 a1 a2 H:=by
 unfold run;rw[an (fn:=Tryz.f78) (keep:=[0,1,2,6,11]) (av 78 rfl) (by kernel_rfl) (by kernel_rfl)]
 kernel_rfl
abbrev nU (vs:List Value)(i:Nat):Value:=sl [0,2,3,1,35,4,7,51,6] vs i
def BS (C:ae)(n:Nat)(v0 v2 v3 v1 gM v4 v7 rS v6:Value)(H:aa):bn:= mv v7 H λcx H=>af (al 1 v1 H) λer H=>af (pS (aq er H) H) λdQ H=>af (pS (ai Tryz.prog .lss 3 cx dQ) H) λdR H=>aV dR (mv v6 H λdw kE=>af (some (v6,kE)) λeF nR=>af (au eF nR) λeO uH=>af (al 4 eO uH) λdz mW=>af (pS (aq dz mW) mW) λhZ sZ=>af (al 2 v1 sZ) λdU pL=>af (pS (aq dU pL) pL) λfh zD=>af (pS (aF Tryz.prog 116 [(0,fh)]) zD) λiL uJ=>af (dH 116 iL uJ) λfN nS=>af (ay Tryz.prog 62 1 [(0,fN)] nS) λeJ lz=>af (de 117 1 8 hZ eJ lz) λiS oE=>af (au dw oE) λjN pM=>af (al 4 jN pM) λiV mX=>af (bD 1 iV iS mX) λeQ kR=>if(lr (some true) (some true) (pS (aq dz mW) mW) (pS (aq dz uJ) uJ) (pS (aq dz nS) nS)&&(lr (some true) (some true) (pS (aq dz mW) mW) (pS (aq dz nS) nS) (pS (aq dz lz) lz)&&true))=true then(λH=>mv v7 H λjO H=>af (pS (ai Tryz.prog .add 3 jO (cv 1)) H) λfC H=>mv fC H λgL H=>fin .normal [v0,v2,v3,v1,gM,v4,gL,dR,v6] H) kR else none) (fin (.exit 0) [v0,v2,v3,v1,gM,v4,v7,dR,v6] H)
def M5 (C:ae)(n:Nat)(vs:List Value)(H:aa):bn:=BS C n (nU vs 0) (nU vs 2) (nU vs 3) (nU vs 1) (nU vs 35) (nU vs 4) (nU vs 7) (nU vs 51) (nU vs 6) H
theorem M6 (C:ae)(n:Nat)(v0 v2 v3 v1 gM v4 v7 rS v6:Value)(H:aa):M5 C n [v0,v2,v3,v1,gM,v4,v7,rS,v6] H=BS C n v0 v2 v3 v1 gM v4 v7 rS v6 H:=by
 kernel_rfl
def BU (C:ae)(n:Nat)(v0 v2 v3 v1 gM v4 v7 rS v6:Value)(H:aa):VH:= mv v6 H λlA H=>mv lA H λmC H=>mv (cv 0) H λmD H=>some (Value.tuple #[mC,mD],H)
def M7 (C:ae)(n:Nat)(vs:List Value)(H:aa):VH:=BU C n (nU vs 0) (nU vs 2) (nU vs 3) (nU vs 1) (nU vs 35) (nU vs 4) (nU vs 7) (nU vs 51) (nU vs 6) H
theorem M8 (C:ae)(n:Nat)(v0 v2 v3 v1 gM v4 v7 rS v6:Value)(H:aa):M7 C n [v0,v2,v3,v1,gM,v4,v7,rS,v6] H=BU C n v0 v2 v3 v1 gM v4 v7 rS v6 H:=by
 kernel_rfl
def F84 (C:ae)(n:Nat)(a0:Value)(H:aa):VH:= af (dH 60 a0 H) λx0 H=>mv (Value.pointer none) H λx1 H=>mv (cv 0) H λx2 H=>af (al 0 x0 H) λx3 H=>af (pS (aq x3 H) H) λx4 H=>af (pS (ai Tryz.prog .lss 3 x4 (cv 7)) H) λx5 H=>mv x5 H λx6 H=>af (gd (ag x6 false) (al 0 x0 H) H) λx7 H=>af (gd (ag x6 false) (pS (aq x7 H) H) H) λx8 H=>af (gd (ag x6 false) (pS (ai Tryz.prog .gtr 3 x8 (cv 65536)) H) H) λx9 H=>af (aK x6 (Value.bool true) x9 H) λaC H=>mv aC H λaO H=>af (gd (ag aO false) (al 1 x0 H) H) λaN H=>af (gd (ag aO false) (pS (aq aN H) H) H) λaI H=>af (gd (ag aO false) (pS (ai Tryz.prog .lss 3 aI (cv 1)) H) H) λaM H=>af (aK aO (Value.bool true) aM H) λaT H=>mv aT H λaW H=>af (gd (ag aW false) (al 1 x0 H) H) λbf H=>af (gd (ag aW false) (pS (aq bf H) H) H) λaU H=>af (gd (ag aW false) (pS (ai Tryz.prog .gtr 3 aU (cv 64)) H) H) λbz H=>af (aK aW (Value.bool true) bz H) λbM H=>mv bM H λbl H=>af (gd (ag bl false) (al 2 x0 H) H) λbA H=>af (gd (ag bl false) (pS (aq bA H) H) H) λbF H=>af (gd (ag bl false) (pS (ai Tryz.prog .lss 3 bF (cv 1)) H) H) λbO H=>af (aK bl (Value.bool true) bO H) λbU H=>mv bU H λbZ H=>af (gd (ag bZ false) (al 2 x0 H) H) λcE H=>af (gd (ag bZ false) (pS (aq cE H) H) H) λcN H=>af (gd (ag bZ false) (pS (ai Tryz.prog .gtr 3 cN (cv 64)) H) H) λbS H=>af (aK bZ (Value.bool true) bS H) λcr H=>aV cr (mv (Value.pointer none) H λcM H=>mv (cv 2) H λbR H=>some (Value.tuple #[cM,bR],H)) (af (al 0 x0 H) λcq H=>af (pS (aq cq H) H) λdC H=>af (C 104 [dC] H) λbP H=>mv bP H λcj H=>af (cg 0 cj H) λdD H=>af (cg 1 cj H) λdr H=>mv dD H λcU H=>mv dr H λcw H=>mv cU H λcL H=>af (C 105 [cL] H) λdO H=>af (pS (cZ 3 x0 H) H) λdE H=>mv cU H λdY H=>af (pS (aF Tryz.prog 65 [(0,dE),(1,dY)]) H) λdI H=>af (dH 65 dI H) λdp H=>mv dp H λdv H=>mv (cv 0) H λcQ H=>cd (iter n (M5 C n) [a0,x1,x2,x0,cr,cU,cQ,undef,dv] H) (dG 0 (dM (M7 C n) (dX Tryz.prog [.tmp 2,.tmp 3] [0,2,3,1,35,4,7,51,6]))))
theorem Vd (G:ae)(n:Nat)(a0:Value)(H:aa):run G (n+1) 84 [a0] H=F84 (run G n) n a0 H:=by
 unfold run;rw[an (fn:=Tryz.f84) (keep:=[0,2,3,1,35,4,7,51,6]) (av 84 rfl) (by kernel_rfl) (by kernel_rfl)]
 kernel_rfl
abbrev p8 (vs:List Value)(i:Nat):Value:=sl [0,2,3,10,22] vs i
def wZ (C:ae)(n:Nat)(v0 v2 v3 v10 js:Value)(H:aa):bn:= mv v3 H λx2 H=>mv v0 H λx3 H=>af (au x3 H) λx4 H=>af (al 4 x4 H) λx5 H=>af (pS (aq x5 H) H) λx6 H=>af (pS (cG x6) H) λx7 H=>af (pS (ai Tryz.prog .lss 3 x2 x7) H) λx8 H=>aV x8 (mv v0 H λx9 H=>af (au x9 H) λaC H=>af (al 4 aC H) λaO H=>af (pS (aq aO H) H) λaN H=>mv v3 H λaI H=>af (cK 1 aN aI H) λaM H=>af (pS (aq aM H) H) λaT H=>af (au aT H) λaW H=>af (al 1 aW H) λbf H=>af (pS (aq bf H) H) λaU H=>aV aU (mv (Value.bool false) H λbz H=>fin .ret [v0,bz,v3,x8,aU] H) (mv v3 H λbM H=>af (pS (ai Tryz.prog .add 3 bM (cv 1)) H) λbl H=>mv bl H λbA H=>fin .normal [v0,v2,bA,x8,aU] H)) (fin (.exit 0) [v0,v2,v3,x8,js] H)
def GY (C:ae)(n:Nat)(vs:List Value)(H:aa):bn:=wZ C n (p8 vs 0) (p8 vs 2) (p8 vs 3) (p8 vs 10) (p8 vs 22) H
theorem Jx (C:ae)(n:Nat)(v0 v2 v3 v10 js:Value)(H:aa):GY C n [v0,v2,v3,v10,js] H=wZ C n v0 v2 v3 v10 js H:=by
 kernel_rfl
def w5 (C:ae)(n:Nat)(v0 v2 v3 v10 js:Value)(H:aa):VH:= mv (Value.bool true) H λbF H=>some (bF,H)
def GZ (C:ae)(n:Nat)(vs:List Value)(H:aa):VH:=w5 C n (p8 vs 0) (p8 vs 2) (p8 vs 3) (p8 vs 10) (p8 vs 22) H
theorem Jy (C:ae)(n:Nat)(v0 v2 v3 v10 js:Value)(H:aa):GZ C n [v0,v2,v3,v10,js] H=w5 C n v0 v2 v3 v10 js H:=by
 kernel_rfl
def Ve (C:ae)(n:Nat)(a0:Value)(H:aa):VH:= mv (Value.bool false) H λx0 H=>mv (cv 0) H λx1 H=>cd (iter n (GY C n) [a0,x0,x1,undef,undef] H) (dG 0 (dM (GZ C n) (dX Tryz.prog [.tmp 2] [0,2,3,10,22])))
theorem Qv (G:ae)(n:Nat)(a0:Value)(H:aa):run G (n+1) 106 [a0] H=Ve (run G n) n a0 H:=by
 unfold run;rw[an (fn:=Tryz.f106) (keep:=[0,2,3,10,22]) (av 106 rfl) (by kernel_rfl) (by kernel_rfl)]
 kernel_rfl
def M9 (C:ae)(n:Nat)(a0 a1 a2:Value)(H:aa):VH:= mv (cv 0) H λx0 H=>mv a0 H λx1 H=>mv a1 H λx2 H=>mv a2 H λx3 H=>af (C 117 [x1,x2,x3] H) λx4 H=>mv x4 H λx5 H=>af (cg 0 x5 H) λx6 H=>af (cg 1 x5 H) λx7 H=>mv x6 H λx8 H=>mv x7 H λx9 H=>mv a1 H λaC H=>mv x8 H λaO H=>mv x9 H λaN H=>af (C 103 [aC,aO,aN] H) λaI H=>mv aI H λaM H=>some (aM,H)
theorem G8 (G:ae)(n:Nat)(a0 a1 a2:Value)(H:aa):run G (n+1) 144 [a0,a1,a2] H=M9 (run G n) n a0 a1 a2 H:=by
 unfold run;rw[an (fn:=Tryz.f144) (keep:=[0,1,2,6,7,8]) (av 144 rfl) (by kernel_rfl) (by kernel_rfl)]
 kernel_rfl
abbrev lM (vs:List Value)(i:Nat):Value:=sl [0,1,4,14,6,17,5] vs i
def ad1 (C:ae)(n:Nat)(v0 v1 v4 bq v6 fE v5:Value)(H:aa):bn:= mv v6 H λaN H=>mv v1 H λaI H=>af (pS (ai Tryz.prog .lss 3 aN aI) H) λaM H=>aV aM (mv v5 H λaT H=>mv v0 H λaW H=>mv v6 H λbf H=>af (C 150 [aW,bf] H) λaU H=>af (pS (ai Tryz.prog .add 3 aT aU) H) λbz H=>mv bz H λbM H=>mv v6 H λbl H=>af (pS (ai Tryz.prog .add 3 bl (cv 1)) H) λbA H=>mv bA H λbF H=>fin .normal [v0,v1,v4,bq,bF,aM,bM] H) (fin (.exit 0) [v0,v1,v4,bq,v6,aM,v5] H)
def G9 (C:ae)(n:Nat)(vs:List Value)(H:aa):bn:=ad1 C n (lM vs 0) (lM vs 1) (lM vs 4) (lM vs 14) (lM vs 6) (lM vs 17) (lM vs 5) H
theorem Jz (C:ae)(n:Nat)(v0 v1 v4 bq v6 fE v5:Value)(H:aa):G9 C n [v0,v1,v4,bq,v6,fE,v5] H=ad1 C n v0 v1 v4 bq v6 fE v5 H:=by
 kernel_rfl
def w7 (C:ae)(n:Nat)(v0 v1 v4 bq v6 fE v5:Value)(H:aa):VH:= mv v5 H λbO H=>mv bO H λbU H=>some (bU,H)
def Ha (C:ae)(n:Nat)(vs:List Value)(H:aa):VH:=w7 C n (lM vs 0) (lM vs 1) (lM vs 4) (lM vs 14) (lM vs 6) (lM vs 17) (lM vs 5) H
theorem JA (C:ae)(n:Nat)(v0 v1 v4 bq v6 fE v5:Value)(H:aa):Ha C n [v0,v1,v4,bq,v6,fE,v5] H=w7 C n v0 v1 v4 bq v6 fE v5 H:=by
 kernel_rfl
def Vf (C:ae)(n:Nat)(a0 a1:Value)(H:aa):VH:= mv (cv 0) H λx0 H=>mv a1 H λx1 H=>af (pS (ai Tryz.prog .lss 3 x1 (cv 0)) H) λx2 H=>mv x2 H λx3 H=>af (gd (ag x3 false) (some (a1,H)) H) λx4 H=>af (gd (ag x3 false) (some (a0,H)) H) λx5 H=>af (gd (ag x3 false) (C 148 [x5] H) H) λx6 H=>af (gd (ag x3 false) (pS (ai Tryz.prog .geq 3 x4 x6) H) H) λx7 H=>af (aK x3 (Value.bool true) x7 H) λx8 H=>aV x8 (mv (cv 0) H λx9 H=>some (x9,H)) (mv (cv 0) H λaC H=>mv (cv 0) H λaO H=>cd (iter n (G9 C n) [a0,a1,x0,x8,aO,undef,aC] H) (dG 0 (dM (Ha C n) (dX Tryz.prog [.tmp 4] [0,1,4,14,6,17,5]))))
theorem Qw (G:ae)(n:Nat)(a0 a1:Value)(H:aa):run G (n+1) 149 [a0,a1] H=Vf (run G n) n a0 a1 H:=by
 unfold run;rw[an (fn:=Tryz.f149) (keep:=[0,1,4,14,6,17,5]) (av 149 rfl) (by kernel_rfl) (by kernel_rfl)]
 kernel_rfl
abbrev tX (vs:List Value)(i:Nat):Value:=sl [0,1,2,6,7,25,29,8] vs i
def w9 (C:ae)(n:Nat)(v0 v1 v2 v6 v7 zg iN v8:Value)(H:aa):VH:= mv v0 H λbl H=>mv v0 H λbA H=>af (au bA H) λbF H=>af (al 5 bF H) λbO H=>af (pS (aq bO H) H) λbU H=>mv v7 H λbZ H=>mv v8 H λcE H=>af (pS (aF Tryz.prog 45 [(0,bZ),(1,cE)]) H) λcN H=>af (ay Tryz.prog 31 1 [(0,cN)] H) λbS H=>af (de 45 2 16 bU bS H) λcr H=>af (au bl H) λcM H=>af (al 5 cM H) λbR H=>af (bD 1 bR cr H) λcq H=>mv v0 H λdC H=>af (au dC H) λbP H=>af (al 3 bP H) λcj H=>af (pS (aq cj H) H) λdD H=>af (pS (ai Tryz.prog .gtr 3 dD (cv 0)) H) λdr H=>mv dr H λcU H=>af (gd (ag cU true) (some (v0,H)) H) λcw H=>af (gd (ag cU true) (au cw H) H) λcL H=>af (gd (ag cU true) (al 5 cL H) H) λdO H=>af (gd (ag cU true) (pS (aq dO H) H) H) λdE H=>af (gd (ag cU true) (pS (cG dE) H) H) λdY H=>af (gd (ag cU true) (some (v0,H)) H) λdI H=>af (gd (ag cU true) (au dI H) H) λdp H=>af (gd (ag cU true) (al 3 dp H) H) λdv H=>af (gd (ag cU true) (pS (aq dv H) H) H) λcQ H=>af (gd (ag cU true) (pS (ai Tryz.prog .geq 3 dY cQ) H) H) λcx H=>af (aK cU cx (Value.bool false) H) λer H=>mv er H λdQ H=>some (dQ,H)
def ve (C:ae)(n:Nat)(vs:List Value)(H:aa):VH:=w9 C n (tX vs 0) (tX vs 1) (tX vs 2) (tX vs 6) (tX vs 7) (tX vs 25) (tX vs 29) (tX vs 8) H
theorem JB (C:ae)(n:Nat)(v0 v1 v2 v6 v7 zg iN v8:Value)(H:aa):ve C n [v0,v1,v2,v6,v7,zg,iN,v8] H=w9 C n v0 v1 v2 v6 v7 zg iN v8 H:=by
 kernel_rfl
def Vg (C:ae)(n:Nat)(a0 a1 a2:Value)(H:aa):VH:= mv (Value.bool false) H λx0 H=>mv a1 H λx1 H=>mv a2 H λx2 H=>af (C 139 [x1,x2] H) λx3 H=>mv x3 H λx4 H=>mv x4 H λx5 H=>mv a0 H λx6 H=>af (au x6 H) λx7 H=>af (al 0 x7 H) λx8 H=>af (pS (aq x8 H) H) λx9 H=>af (pS (ai Tryz.prog .lss 2 x5 x9) H) λaC H=>mv aC H λaO H=>af (gd (ag aO false) (some (x4,H)) H) λaN H=>af (gd (ag aO false) (some (a0,H)) H) λaI H=>af (gd (ag aO false) (au aI H) H) λaM H=>af (gd (ag aO false) (al 1 aM H) H) λaT H=>af (gd (ag aO false) (pS (aq aT H) H) H) λaW H=>af (gd (ag aO false) (pS (ai Tryz.prog .gtr 2 aN aW) H) H) λbf H=>af (aK aO (Value.bool true) bf H) λaU H=>aV aU (mv (Value.bool false) H λbz H=>some (bz,H)) (mv (cv 0) H λbM H=>mv a0 H λdR H=>af (au dR H) λdw H=>af (al 4 dw H) λeF H=>af (pS (aq eF H) H) λeO H=>aV eO (mv a1 H λdz H=>mv a2 H λhZ H=>af (pS (ai Tryz.prog .add 3 hZ (cv 1)) H) λdU H=>af (C 139 [dz,dU] H) λfh H=>mv fh H λiL H=>ve C n [a0,a1,a2,x0,x4,aU,eO,iL] H) (ve C n [a0,a1,a2,x0,x4,aU,eO,bM] H))
theorem Qx (G:ae)(n:Nat)(a0 a1 a2:Value)(H:aa):run G (n+1) 163 [a0,a1,a2] H=Vg (run G n) n a0 a1 a2 H:=by
 unfold run;rw[an (fn:=Tryz.f163) (keep:=[0,1,2,6,7,25,29,8]) (av 163 rfl) (by kernel_rfl) (by kernel_rfl)]
 kernel_rfl
abbrev bG (vs:List Value)(i:Nat):Value:=sl [0,1,2,3,4,5,12,13,16,24,14,7,32,15,63,18,77,17,93,19,102,115] vs i
def xb (C:ae)(n:Nat)(v0 v1 v2 v3 v4 v5 aY aZ cC iX bq v7 fU bY JC dq JD fE JE gu tu tv:Value)(H:aa):VH:= af (pS (cZ 6 bY H) H) λmD H=>mv gu H λmY H=>af (pS (ai Tryz.prog .eql 3 mY (cv 1)) H) λfO H=>af (bD 6 aY mD H) λpO H=>mv fO H λmc H=>af (pS (cZ 6 aY H) H) λr0 _=>some (Value.tuple #[r0,mc],H)
def po (C:ae)(n:Nat)(vs:List Value)(H:aa):VH:=xb C n (bG vs 0) (bG vs 1) (bG vs 2) (bG vs 3) (bG vs 4) (bG vs 5) (bG vs 12) (bG vs 13) (bG vs 16) (bG vs 24) (bG vs 14) (bG vs 7) (bG vs 32) (bG vs 15) (bG vs 63) (bG vs 18) (bG vs 77) (bG vs 17) (bG vs 93) (bG vs 19) (bG vs 102) (bG vs 115) H
theorem JF (C:ae)(n:Nat)(v0 v1 v2 v3 v4 v5 aY aZ cC iX bq v7 fU bY JC dq JD fE JE gu tu tv:Value)(H:aa):po C n [v0,v1,v2,v3,v4,v5,aY,aZ,cC,iX,bq,v7,fU,bY,JC,dq,JD,fE,JE,gu,tu,tv] H=xb C n v0 v1 v2 v3 v4 v5 aY aZ cC iX bq v7 fU bY JC dq JD fE JE gu tu tv H:=by
 kernel_rfl
def xd (C:ae)(n:Nat)(v0 v1 v2 v3 v4 v5 aY aZ cC iX bq v7 fU bY JC dq JD fE JE gu tu tv:Value)(H:aa):VH:= mv gu H λjO H=>af (pS (ai Tryz.prog .eql 3 jO (cv 3)) H) λfC H=>aV fC (af (C 166 [] H) λgL H=>af (bD 6 aY gL H) λlA H=>mv (Value.bool true) H λmC H=>af (pS (cZ 6 aY H) H) λr0 _=>some (Value.tuple #[r0,mC],H)) (mv gu H λkS H=>af (pS (ai Tryz.prog .eql 3 kS (cv 1)) H) λsD H=>mv sD H λiM H=>af (gd (ag iM true) (al 0 v7 H) H) λln H=>af (gd (ag iM true) (pS (aq ln H) H) H) λsE H=>af (gd (ag iM true) (pS (ai Tryz.prog .neq 3 sE (cv 2)) H) H) λml H=>af (gd (ag iM true) (some (ml,H)) H) λu6 H=>af (gd (ag u6 false) (al 1 bY H) H) λoF H=>af (gd (ag u6 false) (pS (aq oF H) H) H) λzG H=>af (gd (ag u6 false) (pS (iG .not zG) H) H) λwH H=>af (gd (ag iM true) (aK u6 (Value.bool true) wH H) H) λAs H=>af (aK iM As (Value.bool false) H) λfD H=>aV fD (mv v0 H λzH H=>mv v5 H λCZ H=>af (C 126 [zH,CZ] H) λzf H=>po C n [v0,v1,v2,v3,v4,v5,aY,aZ,cC,iX,bq,v7,fU,bY,JC,dq,JD,fE,JE,gu,fC,fD] H) (po C n [v0,v1,v2,v3,v4,v5,aY,aZ,cC,iX,bq,v7,fU,bY,JC,dq,JD,fE,JE,gu,fC,fD] H))
def adP (C:ae)(n:Nat)(vs:List Value)(H:aa):VH:=xd C n (bG vs 0) (bG vs 1) (bG vs 2) (bG vs 3) (bG vs 4) (bG vs 5) (bG vs 12) (bG vs 13) (bG vs 16) (bG vs 24) (bG vs 14) (bG vs 7) (bG vs 32) (bG vs 15) (bG vs 63) (bG vs 18) (bG vs 77) (bG vs 17) (bG vs 93) (bG vs 19) (bG vs 102) (bG vs 115) H
theorem JG (C:ae)(n:Nat)(v0 v1 v2 v3 v4 v5 aY aZ cC iX bq v7 fU bY JC dq JD fE JE gu tu tv:Value)(H:aa):adP C n [v0,v1,v2,v3,v4,v5,aY,aZ,cC,iX,bq,v7,fU,bY,JC,dq,JD,fE,JE,gu,tu,tv] H=xd C n v0 v1 v2 v3 v4 v5 aY aZ cC iX bq v7 fU bY JC dq JD fE JE gu tu tv H:=by
 kernel_rfl
def xe (C:ae)(n:Nat)(v0 v1 v2 v3 v4 v5 aY aZ cC iX bq v7 fU bY JC dq JD fE JE gu tu tv:Value)(H:aa):VH:= mv v0 H λaO H=>af (au aO H) λaN H=>af (al 2 aN H) λaI H=>af (pS (aq aI H) H) λaM H=>mv aM H λaT H=>af (gd (ag aT false) (al 0 v7 H) H) λaW H=>af (gd (ag aT false) (pS (aq aW H) H) H) λbf H=>af (gd (ag aT false) (pS (ai Tryz.prog .eql 3 bf (cv 1)) H) H) λaU H=>af (gd (ag aT false) (some (aU,H)) H) λbz H=>af (gd (ag bz true) (al 1 bY H) H) λbM H=>af (gd (ag bz true) (pS (aq bM H) H) H) λbl H=>af (gd (ag aT false) (aK bz bl (Value.bool false) H) H) λbA H=>af (aK aT (Value.bool true) bA H) λbF H=>mv bF H λbO H=>af (gd (ag bO false) (al 0 v7 H) H) λbU H=>af (gd (ag bO false) (pS (aq bU H) H) H) λbZ H=>af (gd (ag bO false) (pS (ai Tryz.prog .eql 3 bZ (cv 3)) H) H) λcE H=>af (gd (ag bO false) (some (cE,H)) H) λcN H=>af (gd (ag cN true) (al 1 bY H) H) λbS H=>af (gd (ag cN true) (pS (aq bS H) H) H) λcr H=>af (gd (ag cN true) (pS (iG .not cr) H) H) λcM H=>af (gd (ag bO false) (aK cN cM (Value.bool false) H) H) λbR H=>af (aK bO (Value.bool true) bR H) λcq H=>aV cq (af (pS (cZ 6 bY H) H) λdC H=>af (bD 6 aY dC H) λbP H=>mv (Value.bool true) H λcj H=>af (pS (cZ 6 aY H) H) λr0 _=>some (Value.tuple #[r0,cj],H)) (mv v0 H λdD H=>af (pS (cZ 3 v7 H) H) λdr H=>mv v4 H λcU H=>mv bq H λcw H=>mv cC H λcL H=>af (al 1 bY H) λdO H=>af (pS (aq dO H) H) λdE H=>af (C 169 [dD,dr,cU,cw,cL,dE] H) λdY H=>mv dY H λdI H=>af (cg 0 dI H) λdp H=>af (cg 1 dI H) λdv H=>mv dp H λcQ H=>mv dv H λcx H=>mv cx H λer H=>af (pS (iG .not er) H) λdQ H=>aV dQ (af (C 166 [] H) λdR H=>af (bD 6 aY dR H) λdw H=>mv (Value.bool true) H λeF H=>af (pS (cZ 6 aY H) H) λr0 _=>some (Value.tuple #[r0,eF],H)) (mv v0 H λeO H=>af (au eO H) λdz H=>af (al 8 dz H) λhZ H=>af (bD 1 hZ (cv 0) H) λdU H=>mv v0 H λfh H=>mv v2 H λiL H=>af (pS (ai Tryz.prog .add 3 iL (cv 2)) H) λfN H=>mv v3 H λeJ H=>mv v4 H λiS H=>mv cQ H λjN H=>af (C 116 [fh,fN,eJ,iS,jN] H) λiV H=>mv iV H λeQ H=>mv v0 H λGG H=>af (au GG H) λwV H=>af (al 8 wV H) λJt H=>af (pS (aq Jt H) H) λFB H=>af (pS (ai Tryz.prog .gtr 3 FB (cv 0)) H) λBN H=>aV BN (mv v0 H λMW H=>mv v0 H λLU H=>af (au LU H) λC0 H=>af (al 8 C0 H) λBO H=>af (pS (aq BO H) H) λBV H=>af (au MW H) λnd H=>af (al 9 nd H) λF6 H=>af (bD 1 F6 BV H) λQy H=>adP C n [v0,v1,v2,v3,v4,v5,aY,aZ,cC,iX,bq,v7,fU,bY,cq,cx,dQ,cQ,BN,eQ,tu,tv] H) (adP C n [v0,v1,v2,v3,v4,v5,aY,aZ,cC,iX,bq,v7,fU,bY,cq,cx,dQ,cQ,BN,eQ,tu,tv] H)))
def pw (C:ae)(n:Nat)(vs:List Value)(H:aa):VH:=xe C n (bG vs 0) (bG vs 1) (bG vs 2) (bG vs 3) (bG vs 4) (bG vs 5) (bG vs 12) (bG vs 13) (bG vs 16) (bG vs 24) (bG vs 14) (bG vs 7) (bG vs 32) (bG vs 15) (bG vs 63) (bG vs 18) (bG vs 77) (bG vs 17) (bG vs 93) (bG vs 19) (bG vs 102) (bG vs 115) H
theorem JH (C:ae)(n:Nat)(v0 v1 v2 v3 v4 v5 aY aZ cC iX bq v7 fU bY JC dq JD fE JE gu tu tv:Value)(H:aa):pw C n [v0,v1,v2,v3,v4,v5,aY,aZ,cC,iX,bq,v7,fU,bY,JC,dq,JD,fE,JE,gu,tu,tv] H=xe C n v0 v1 v2 v3 v4 v5 aY aZ cC iX bq v7 fU bY JC dq JD fE JE gu tu tv H:=by
 kernel_rfl
def Hb (C:ae)(n:Nat):Mk (Value×aa):= (.seq .leaf (.seq .leaf (.seq .leaf (.seq .leaf (.uL (.seq .leaf (.cond (.seq .leaf (.seq .leaf (.cond .leaf .leaf))) .leaf)) (pw C n) (.seq (.seq .leaf (.cond (.seq .leaf .leaf) .leaf)) (.seq .leaf (.seq (.seq .leaf (.cond (.seq .leaf .leaf) .leaf)) (.seq .leaf (.seq .leaf (.uL (.seq .leaf (.cond .leaf .leaf)) (adP C n) (.seq (.seq .leaf (.cond (.seq .leaf .leaf) .leaf)) (.uL (.seq .leaf (.cond .leaf .leaf)) (po C n) (.seq .leaf .leaf))))))))))))))
theorem Qz (C:ae)(n:Nat){c:Code}(hc:Tryz.f167.body=some c):td Tryz.prog C [0,1,2,3,4,5,12,13,16,24,14,7,32,15,63,18,77,17,93,19,102,115] n (Hb C n) c (dX Tryz.prog Tryz.f167.results.toList [0,1,2,3,4,5,12,13,16,24,14,7,32,15,63,18,77,17,93,19,102,115]):=by
 cases hc;exact(And.intro True.intro (And.intro True.intro (And.intro True.intro (And.intro True.intro (And.intro (And.intro True.intro (And.intro (And.intro True.intro (And.intro True.intro (And.intro True.intro True.intro))) True.intro)) (And.intro (And.intro (And.intro True.intro (And.intro (And.intro True.intro True.intro) True.intro)) (And.intro True.intro (And.intro (And.intro True.intro (And.intro (And.intro True.intro True.intro) True.intro)) (And.intro True.intro (And.intro True.intro (And.intro (And.intro True.intro (And.intro True.intro True.intro)) (And.intro (And.intro (And.intro True.intro (And.intro (And.intro True.intro True.intro) True.intro)) (And.intro (And.intro True.intro (And.intro True.intro True.intro)) (And.intro (And.intro True.intro True.intro) (λvs H=>by kernel_rfl)))) (λvs H=>by kernel_rfl)))))))) (λvs H=>by kernel_rfl)))))))
def Vh (C:ae)(n:Nat)(a0 a1 a2 a3 a4 a5:Value)(H:aa):VH:= af (dH 39 a1 H) λx0 H=>af (some (aS H 47 1 [(cv 0),(Value.bool false),(cv 0),(cv 0),(cv 0),(Value.slice none 0 0)])) λx1 H=>mv (Value.bool false) H λx2 H=>mv (cv 0) H λx3 H=>af (pS (aF Tryz.prog 47 []) H) λx4 H=>af (some (aS H 47 1 [(cv 0),(Value.bool false),(cv 0),(cv 0),(cv 0),(Value.slice none 0 0)])) λx5 H=>af (bD 6 x5 x4 H) λx6 H=>mv a4 H λx7 H=>af (C 57 [x7] H) λx8 H=>af (pS (ai Tryz.prog .eql 3 x8 (cv 2)) H) λx9 H=>mv x9 H λaC H=>mv aC H λDO H=>aV DO (mv a0 H λzL H=>mv a4 H λNa H=>af (C 83 [Na] H) λVi H=>af (C 139 [zL,Vi] H) λVj H=>mv Vj H λJI H=>mv JI H λVk H=>af (al 1 x0 H) λfP H=>af (pS (aq fP H) H) λVl H=>af (pS (ai Tryz.prog .eql 2 Vk Vl) H) λNb H=>aV Nb (mv JI H λoI H=>mv a0 H λVm H=>mv a4 H λVn H=>af (C 83 [Vn] H) λVo H=>af (pS (ai Tryz.prog .add 3 Vo (cv 1)) H) λNc H=>af (C 139 [Vm,Nc] H) λVp H=>af (pS (aF Tryz.prog 45 [(0,oI),(1,Vp)]) H) λVq H=>af (pS (aF Tryz.prog 47 [(1,(Value.bool true)),(2,Vq)]) H) λVr H=>af (bD 6 x5 Vr H) λZs H=>pw C n [a0,a1,a2,a3,a4,a5,x1,x2,aC,DO,JI,x0,Nb,x5,undef,undef,undef,undef,undef,undef,undef,undef] H) (pw C n [a0,a1,a2,a3,a4,a5,x1,x2,aC,DO,JI,x0,Nb,x5,undef,undef,undef,undef,undef,undef,undef,undef] H)) (pw C n [a0,a1,a2,a3,a4,a5,x1,x2,aC,DO,x3,x0,undef,x5,undef,undef,undef,undef,undef,undef,undef,undef] H)
theorem QA (G:ae)(n:Nat)(a0 a1 a2 a3 a4 a5:Value)(H:aa):run G (n+1) 167 [a0,a1,a2,a3,a4,a5] H=Vh (run G n) n a0 a1 a2 a3 a4 a5 H:=by
 unfold run;rw[an (fn:=Tryz.f167) (keep:=[0,1,2,3,4,5,12,13,16,24,14,7,32,15,63,18,77,17,93,19,102,115]) (av 167 rfl) (by kernel_rfl) (by kernel_rfl)]
 rw[GI rfl (Hb _ n) (Qz _ n rfl)];kernel_rfl
def Vs (C:ae)(n:Nat)(a0 a1 a2 a3 a4:Value)(H:aa):VH:= mv (Value.bool false) H λx0 H=>mv a1 H λx1 H=>af (C 83 [x1] H) λx2 H=>mv x2 H λx3 H=>mv a1 H λx4 H=>af (C 57 [x4] H) λx5 H=>af (pS (ai Tryz.prog .eql 3 x5 (cv 1)) H) λx6 H=>mv x6 H λx7 H=>aV x7 (mv a0 H λx8 H=>mv x3 H λx9 H=>mv a4 H λaC H=>af (C 170 [x8,x9,(cv 1),aC] H) λaO H=>mv aO H λaN H=>some (aN,H)) (af (pS (ai Tryz.prog .eql 3 x5 (cv 2)) H) λaI H=>mv aI H λaM H=>aV aM (mv a0 H λaT H=>mv x3 H λaW H=>mv a4 H λbf H=>af (C 170 [aT,aW,(cv 2),bf] H) λaU H=>mv aU H λbz H=>af (gd (ag bz true) (some (a0,H)) H) λbM H=>af (gd (ag bz true) (some (x3,H)) H) λbl H=>af (gd (ag bz true) (C 33 [bM,bl] H) H) λbA H=>af (gd (ag bz true) (some (a2,H)) H) λbF H=>af (gd (ag bz true) (pS (ai Tryz.prog .geq 2 bA bF) H) H) λbO H=>af (aK bz bO (Value.bool false) H) λbU H=>mv bU H λbZ H=>af (gd (ag bZ true) (some (a0,H)) H) λcE H=>af (gd (ag bZ true) (some (x3,H)) H) λcN H=>af (gd (ag bZ true) (C 33 [cE,cN] H) H) λbS H=>af (gd (ag bZ true) (some (a3,H)) H) λcr H=>af (gd (ag bZ true) (pS (ai Tryz.prog .leq 2 bS cr) H) H) λcM H=>af (aK bZ cM (Value.bool false) H) λbR H=>mv bR H λcq H=>some (cq,H)) (af (pS (ai Tryz.prog .eql 3 x5 (cv 3)) H) λdC H=>mv dC H λbP H=>aV bP (mv a0 H λcj H=>mv x3 H λdD H=>mv a2 H λdr H=>mv a3 H λcU H=>mv a4 H λcw H=>af (C 171 [cj,dD,dr,cU,cw] H) λcL H=>mv cL H λdO H=>some (dO,H)) (af (pS (ai Tryz.prog .eql 3 x5 (cv 4)) H) λdE H=>mv dE H λdY H=>aV dY (mv a0 H λdI H=>mv x3 H λdp H=>af (C 33 [dI,dp] H) λdv H=>mv dv H λcQ H=>mv a0 H λcx H=>mv x3 H λer H=>mv a4 H λdQ H=>af (C 170 [cx,er,(cv 5),dQ] H) λdR H=>mv dR H λdw H=>af (gd (ag dw true) (some (cQ,H)) H) λeF H=>af (gd (ag dw true) (C 57 [eF] H) H) λeO H=>af (gd (ag dw true) (pS (ai Tryz.prog .eql 3 eO (cv 3)) H) H) λdz H=>af (aK dw dz (Value.bool false) H) λhZ H=>mv hZ H λdU H=>af (gd (ag dU true) (some (a0,H)) H) λfh H=>af (gd (ag dU true) (some (cQ,H)) H) λiL H=>af (gd (ag dU true) (some (a2,H)) H) λfN H=>af (gd (ag dU true) (some (a3,H)) H) λeJ H=>af (gd (ag dU true) (some (a4,H)) H) λiS H=>af (gd (ag dU true) (C 168 [fh,iL,fN,eJ,iS] H) H) λjN H=>af (aK dU jN (Value.bool false) H) λiV H=>mv iV H λeQ H=>some (eQ,H)) (mv (Value.bool false) H λjO H=>some (jO,H)))))
theorem QB (G:ae)(n:Nat)(a0 a1 a2 a3 a4:Value)(H:aa):run G (n+1) 168 [a0,a1,a2,a3,a4] H=Vs (run G n) n a0 a1 a2 a3 a4 H:=by
 unfold run;rw[an (fn:=Tryz.f168) (keep:=[0,1,2,3,4,10,16,17,11,23,43,51,12]) (av 168 rfl) (by kernel_rfl) (by kernel_rfl)]
 kernel_rfl
end Go.Proofs.YtgfgglponbmgmaaGreat.Fun
end
