/- Texts of the proof of peekShort_holds, put together by a small program of ours (names shortened, spaces taken out). No condition beyond the given statement. -/
import Derived.Test.YtgfgglponbmgmaaGreatPSH9
set_option linter.unusedVariables false
set_option linter.unusedSimpArgs false
set_option linter.unnecessarySimpa false
noncomputable section
section
namespace Go.Proofs.YtgfgglponbmgmaaGreatA.Am
abbrev At {α:Type}(kb:List Value→aa→Option α)(k:bE→List Value→aa→Option α):bE→List Value→aa→Option α:=
 λe vs H=>match e with
  | .normal=>kb vs H
  |e=>k e vs H
abbrev GH {α:Type}(id:Nat)(k:bE→List Value→aa→Option α):bE→List Value→aa→Option α:=
 λe vs H=>match e with
  | .exit i=>if i=id then k .normal vs H else k (.exit i) vs H
  |e=>k e vs H
theorem wI {α:Type}(kb:List Value→aa→Option α)(k:bE→List Value→aa→Option α):At kb k=dM kb k:=rfl
theorem DI {α:Type}(id:Nat)(k:bE→List Value→aa→Option α):GH id k=dG id k:=rfl
abbrev DJ {α:Type}(P:Program)(C:ae)(ops:Array Oper):List Oper→Env→aa→(Env→aa→Option α)→Option α
 | [],E,H,k=>k E H
 |o::r,E,H,k=>af (match o.guard with
   |none=>gk P C E H o
   |some _=>gd (dB ops o E) (gk P C E H o) H) λv H'=>DJ P C ops r (E.put o.dst v) H' k
theorem MQ {α:Type}(P:Program)(C:ae)(ops:Array Oper)(l:List Oper)(E:Env)(H:aa)(k:Env→aa→Option α):DJ P C ops l E H k=Fs P C ops l E H k:=by
 induction l generalizing E H with
 |nil=>rfl
 |cons o r ih=>simp only[DJ,Fs,ih];rfl
abbrev BF {α:Type}(P:Program)(C:ae)(ops:Array Oper):List Oper→Env→aa→List (Env×aa)→(Env→aa→List (Env×aa)→Option α)→Option α
 | [],E,H,T,k=>k E H (T++[(E,H)])
 |o::r,E,H,T,k=>af (match o.guard with
   |none=>gk P C E H o
   |some _=>gd (dB ops o E) (gk P C E H o) H) λv H'=>BF P C ops r (E.put o.dst v) H' (T++[(E,H)]) k
theorem Jg {α:Type}(P:Program)(C:ae)(ops:Array Oper)(l:List Oper)(E:Env)(H:aa)(T:List (Env×aa))(k:Env→aa→List (Env×aa)→Option α):BF P C ops l E H T k=Ap P C ops l E H T k:=by
 induction l generalizing E H T with
 |nil=>rfl
 |cons o r ih=>simp only[BF,Ap,ih];rfl
abbrev BG {α:Type}(P:Program)(C:ae)(F:List Nat)(base:Nat)(ops:Array Oper):List Oper→Nat→Env→aa→(Env→aa→Option α)→Option α
 | [],_,E,H,k=>k E H
 |o::r,j,E,H,k=>af (match o.guard with
   |none=>du P C F base j E H o
   |some _=>gd (dB ops o E) (du P C F base j E H o) H) λv H'=>BG P C F base ops r (j+1) (E.put o.dst v) H' k
theorem Jh {α:Type}(P:Program)(C:ae)(F:List Nat)(base:Nat)(ops:Array Oper)(l:List Oper)(j:Nat)(E:Env)(H:aa)(k:Env→aa→Option α):BG P C F base ops l j E H k=Aq P C F base ops l j E H k:=by
 induction l generalizing j E H with
 |nil=>rfl
 |cons o r ih=>simp only[BG,Aq,ih];rfl
abbrev u7 {α:Type}(P:Program)(C:ae)(F:List Nat)(base:Nat)(ops:Array Oper):List Oper→Nat→Env→aa→List (Env×aa)→(Env→aa→List (Env×aa)→Option α)→Option α
 | [],_,E,H,T,k=>k E H (T++[(E,H)])
 |o::r,j,E,H,T,k=>af (match o.guard with
   |none=>du P C F base j E H o
   |some _=>gd (dB ops o E) (du P C F base j E H o) H) λv H'=>u7 P C F base ops r (j+1) (E.put o.dst v) H' (T++[(E,H)]) k
theorem FA {α:Type}(P:Program)(C:ae)(F:List Nat)(base:Nat)(ops:Array Oper)(l:List Oper)(j:Nat)(E:Env)(H:aa)(T:List (Env×aa))(k:Env→aa→List (Env×aa)→Option α):u7 P C F base ops l j E H T k=sX P C F base ops l j E H T k:=by
 induction l generalizing j E H T with
 |nil=>rfl
 |cons o r ih=>simp only[u7,sX,ih];rfl
abbrev wJ {α:Type}(P:Program)(C:ae)(ops:Array Oper)(draw:Bool)(E:Env)(H:aa)(k:Env→aa→Option α):Option α:=
 if draw then
  match lG P ops with
  | []=>match mq P ops with
   | []=>DJ P C ops ops.toList E H k
   |cs=>BF P C ops ops.toList E H [] λE' H' T=>if cs.all (iH P ops T) then k E' H' else none
  |F=>sY F.length H λbase H=>match mq P ops with
   | []=>BG P C F base ops ops.toList 0 E H k
   |cs=>u7 P C F base ops ops.toList 0 E H [] λE' H' T=>if cs.all (iH P ops T) then k E' H' else none
 else DJ P C ops ops.toList E H k
theorem DK {α:Type}(P:Program)(C:ae)(ops:Array Oper)(draw:Bool)(E:Env)(H:aa)(k:Env→aa→Option α):wJ P C ops draw E H k=rC P C ops draw E H k:=by
 simp only[wJ,rC,MQ,Jg,Jh,FA];rfl
inductive Mk:Type→Type 1 where
 |leaf {α:Type}:Mk α
 |seq {α:Type} (a b:Mk α):Mk α
 |uL {α:Type} (a:Mk α) (J:List Value→aa→Option α) (b:Mk α):Mk α
 |cond {α:Type} (a b:Mk α):Mk α
 |block {α:Type} (a:Mk α):Mk α
 |scope {α:Type} (a:Mk α):Mk α
 |loop {α:Type} (f:List Value→aa→bn) (a:Mk (bE×List Value×aa)):Mk α
abbrev Ji (P:Program)(C:ae)(keep:List Nat)(n:Nat):{α:Type}→Code→List Value→aa→(bE→List Value→aa→Option α)→Option α
 |_,.skip,vs,H,k=>k .normal vs H
 |_,.label _,vs,H,k=>k .normal vs H
 |_,.region _ ops draw,vs,H,k=>wJ P C ops draw (keep.zip vs) H λE H'=>k .normal (keep.map E.get) H'
 |_,.seq a b,vs,H,k=>Ji P C keep n a vs H (At (λiU H'=>Ji P C keep n b iU H' k) k)
 |_,.cond c a b,vs,H,k=>aV (eo (keep.zip vs) c) (Ji P C keep n a vs H k) (Ji P C keep n b vs H k)
 |_,.block id c,vs,H,k=>Ji P C keep n c vs H (GH id k)
 |_,.loop c,vs,H,k=>cd (iter n (λvs H=>nO P C keep n c vs H fin) vs H) k
 |_,.exit id,vs,H,k=>k (.exit id) vs H
 |_,.scope c,vs,H,k=>Ji P C keep n c vs H k
 |_,.ret,vs,H,k=>k .ret vs H
 |_,.goto _,_,_,_=>none
 |_,.rangeFunc g ps x y,vs,H,k=>DH (UJ P.funcs.size C (eo (keep.zip vs) g) ⟨keep,vs,ps,x,y⟩ H) λe H'=>k e vs H'
 |_,.refuse _,_,_,_=>none
theorem UN (P:Program)(C:ae)(keep:List Nat)(n:Nat)(c:Code): ∀{α:Type} (vs:List Value) (H:aa) (k:bE→List Value→aa→Option α),
  Ji P C keep n c vs H k=nO P C keep n c vs H k:=by
 induction c with
 |region p ops draw=>intros;simp only[Ji,nO,DK]
 |seq a b I9 Ja=>intros;simp only[Ji,nO,I9,Ja,wI]
 |cond c a b I9 Ja=>intros;simp only[Ji,nO,I9,Ja]
 |block id c ih=>intros;simp only[Ji,nO,ih,DI]
 |scope c ih=>intros;simp only[Ji,nO,ih]
 |_=>intros;rfl
abbrev BH (P:Program)(C:ae)(keep:List Nat)(n:Nat):{α:Type}→Mk α→Code→List Value→aa→(bE→List Value→aa→Option α)→Option α
 |_,.seq ma mb,.seq a b,vs,H,k=>BH P C keep n ma a vs H (At (λiU H'=>BH P C keep n mb b iU H' k) k)
 |_,.uL ma J _,.seq a _,vs,H,k=>BH P C keep n ma a vs H (At J k)
 |_,.cond ma mb,.cond c a b,vs,H,k=>aV (eo (keep.zip vs) c) (BH P C keep n ma a vs H k) (BH P C keep n mb b vs H k)
 |_,.block ma,.block id c,vs,H,k=>BH P C keep n ma c vs H (GH id k)
 |_,.scope ma,.scope c,vs,H,k=>BH P C keep n ma c vs H k
 |_,.loop f _,.loop _,vs,H,k=>cd (iter n f vs H) k
 |_,_,c,vs,H,k=>Ji P C keep n c vs H k
def td (P:Program)(C:ae)(keep:List Nat)(n:Nat):{α:Type}→Mk α→Code→(bE→List Value→aa→Option α)→Prop
 |_,.seq ma mb,.seq a b,k=>td P C keep n ma a (At (λiU H'=>BH P C keep n mb b iU H' k) k)∧td P C keep n mb b k
 |_,.uL ma J mb,.seq a b,k=>td P C keep n ma a (At J k)∧td P C keep n mb b k∧∀vs H,BH P C keep n mb b vs H k=J vs H
 |_,.cond ma mb,.cond _ a b,k=>td P C keep n ma a k∧td P C keep n mb b k
 |_,.block ma,.block id c,k=>td P C keep n ma c (GH id k)
 |_,.scope ma,.scope c,k=>td P C keep n ma c k
 |_,.loop f ma,.loop c,_=>td P C keep n ma c fin∧∀vs H,BH P C keep n ma c vs H fin=f vs H
 |_,.leaf,_,_=>True
 |_,_,_,_=>False
theorem UO (P:Program)(C:ae)(keep:List Nat)(n:Nat){α:Type}(m:Mk α): ∀(c:Code) (vs:List Value) (H:aa) (k:bE→List Value→aa→Option α),
  td P C keep n m c k→BH P C keep n m c vs H k=nO P C keep n c vs H k:=by
 induction m with
 |leaf=>intro c vs H k _;cases c<;>exact UN ..
 |seq ma mb I9 Ja=>
  intro c vs H k h;cases c with
  |seq a b=>
   obtain⟨h1,h2⟩:=h;simp only[BH,nO];rw[I9 a vs H _ h1];have:(λiU H'=>BH P C keep n mb b iU H' k)=λiU H'=>nO P C keep n b iU H' k:=by funext iU H';exact Ja b iU H' k h2
   rw[this,wI]
  |_=>exact h.elim
 |uL ma J mb I9 Ja=>
  intro c vs H k h;cases c with
  |seq a b=>
   obtain⟨h1,h2,h3⟩:=h;simp only[BH,nO];rw[I9 a vs H _ h1];have:J=λiU H'=>nO P C keep n b iU H' k:=by funext iU H';rw[←h3];exact Ja b iU H' k h2
   rw[←this,wI]
  |_=>exact h.elim
 |cond ma mb I9 Ja=>
  intro c vs H k h;cases c with
  |cond c a b=>obtain⟨h1,h2⟩:=h;simp only[BH,nO];rw[I9 a vs H k h1,Ja b vs H k h2]
  |_=>exact h.elim
 |block ma ih=>
  intro c vs H k h;cases c with
  |block id c=>simp only[BH,nO];rw[ih c vs H _ h,DI]
  |_=>exact h.elim
 |scope ma ih=>
  intro c vs H k h;cases c with
  |scope c=>simp only[BH,nO];exact ih c vs H k h
  |_=>exact h.elim
 |loop f ma ih=>
  intro c vs H k h;cases c with
  |loop c=>
   obtain⟨h1,h2⟩:=h;simp only[BH,nO];have:f=λvs H=>nO P C keep n c vs H fin:=by funext vs H;rw[←h2];exact ih c vs H fin h1
   rw[←this]
  |_=>exact h.elim
theorem GI {P:Program}{C:ae}{n:Nat}{fn:Func}{keep:List Nat}{c:Code}(hc:fn.body=some c)(m:Mk (Value×aa))(h:td P C keep n m c (dX P fn.results.toList keep))(args:List Value)(H:aa):
  GB P C n fn keep args H=BH P C keep n m c (keep.map λt=>args.getD t undef) H (dX P fn.results.toList keep):=by
 unfold GB;rw[hc];exact(UO P C keep n m c _ H _ h).symm
end Go.Proofs.YtgfgglponbmgmaaGreatA.Am
end
