/- Texts of the proof of dcssPlays_holds, put together by a small program of ours (names shortened, spaces taken out). No condition beyond the given statement. -/
import Derived.Test.YtgfgglponbmgmaaGreatDCP9
set_option linter.unusedVariables false
set_option linter.unusedSimpArgs false
set_option linter.unnecessarySimpa false
noncomputable section
section
namespace Go.Proofs.YtgfgglponbmgmaaGreatA.Am
abbrev A7 {α:Type}(kb:List Value→aa→Option α)(k:bG→List Value→aa→Option α):bG→List Value→aa→Option α:=
 λe vs H=>match e with
  | .normal=>kb vs H
  |e=>k e vs H
abbrev Im {α:Type}(id:Nat)(k:bG→List Value→aa→Option α):bG→List Value→aa→Option α:=
 λe vs H=>match e with
  | .exit i=>if i=id then k .normal vs H else k (.exit i) vs H
  |e=>k e vs H
theorem xx {α:Type}(kb:List Value→aa→Option α)(k:bG→List Value→aa→Option α):A7 kb k=dQ kb k:=rfl
theorem Ep {α:Type}(id:Nat)(k:bG→List Value→aa→Option α):Im id k=dJ id k:=rfl
abbrev Er {α:Type}(P:Program)(C:ae)(ops:Array Oper):List Oper→Env→aa→(Env→aa→Option α)→Option α
 | [],E,H,k=>k E H
 |o::r,E,H,k=>af (match o.guard with
   |none=>gA P C E H o
   |some _=>gd (dE ops o E) (gA P C E H o) H) λv H'=>Er P C ops r (E.put o.dst v) H' k
theorem OL {α:Type}(P:Program)(C:ae)(ops:Array Oper)(l:List Oper)(E:Env)(H:aa)(k:Env→aa→Option α):Er P C ops l E H k=Gj P C ops l E H k:=by
 induction l generalizing E H with
 |nil=>rfl
 |cons o r ih=>simp only[Er,Gj,ih];rfl
abbrev Cj {α:Type}(P:Program)(C:ae)(ops:Array Oper):List Oper→Env→aa→List (Env×aa)→(Env→aa→List (Env×aa)→Option α)→Option α
 | [],E,H,T,k=>k E H (T++[(E,H)])
 |o::r,E,H,T,k=>af (match o.guard with
   |none=>gA P C E H o
   |some _=>gd (dE ops o E) (gA P C E H o) H) λv H'=>Cj P C ops r (E.put o.dst v) H' (T++[(E,H)]) k
theorem KF {α:Type}(P:Program)(C:ae)(ops:Array Oper)(l:List Oper)(E:Env)(H:aa)(T:List (Env×aa))(k:Env→aa→List (Env×aa)→Option α):Cj P C ops l E H T k=AS P C ops l E H T k:=by
 induction l generalizing E H T with
 |nil=>rfl
 |cons o r ih=>simp only[Cj,AS,ih];rfl
abbrev Ck {α:Type}(P:Program)(C:ae)(F:List Nat)(base:Nat)(ops:Array Oper):List Oper→Nat→Env→aa→(Env→aa→Option α)→Option α
 | [],_,E,H,k=>k E H
 |o::r,j,E,H,k=>af (match o.guard with
   |none=>dA P C F base j E H o
   |some _=>gd (dE ops o E) (dA P C F base j E H o) H) λv H'=>Ck P C F base ops r (j+1) (E.put o.dst v) H' k
theorem KI {α:Type}(P:Program)(C:ae)(F:List Nat)(base:Nat)(ops:Array Oper)(l:List Oper)(j:Nat)(E:Env)(H:aa)(k:Env→aa→Option α):Ck P C F base ops l j E H k=AT P C F base ops l j E H k:=by
 induction l generalizing j E H with
 |nil=>rfl
 |cons o r ih=>simp only[Ck,AT,ih];rfl
abbrev vC {α:Type}(P:Program)(C:ae)(F:List Nat)(base:Nat)(ops:Array Oper):List Oper→Nat→Env→aa→List (Env×aa)→(Env→aa→List (Env×aa)→Option α)→Option α
 | [],_,E,H,T,k=>k E H (T++[(E,H)])
 |o::r,j,E,H,T,k=>af (match o.guard with
   |none=>dA P C F base j E H o
   |some _=>gd (dE ops o E) (dA P C F base j E H o) H) λv H'=>vC P C F base ops r (j+1) (E.put o.dst v) H' (T++[(E,H)]) k
theorem GG {α:Type}(P:Program)(C:ae)(F:List Nat)(base:Nat)(ops:Array Oper)(l:List Oper)(j:Nat)(E:Env)(H:aa)(T:List (Env×aa))(k:Env→aa→List (Env×aa)→Option α):vC P C F base ops l j E H T k=tz P C F base ops l j E H T k:=by
 induction l generalizing j E H T with
 |nil=>rfl
 |cons o r ih=>simp only[vC,tz,ih];rfl
abbrev xy {α:Type}(P:Program)(C:ae)(ops:Array Oper)(draw:Bool)(E:Env)(H:aa)(k:Env→aa→Option α):Option α:=
 if draw then
  match lM P ops with
  | []=>match mE P ops with
   | []=>Er P C ops ops.toList E H k
   |cs=>Cj P C ops ops.toList E H [] λE' H' T=>if cs.all (iN P ops T) then k E' H' else none
  |F=>tA F.length H λbase H=>match mE P ops with
   | []=>Ck P C F base ops ops.toList 0 E H k
   |cs=>vC P C F base ops ops.toList 0 E H [] λE' H' T=>if cs.all (iN P ops T) then k E' H' else none
 else Er P C ops ops.toList E H k
theorem Et {α:Type}(P:Program)(C:ae)(ops:Array Oper)(draw:Bool)(E:Env)(H:aa)(k:Env→aa→Option α):xy P C ops draw E H k=rK P C ops draw E H k:=by
 simp only[xy,rK,OL,KF,KI,GG];rfl
inductive Mk:Type→Type 1 where
 |leaf {α:Type}:Mk α
 |seq {α:Type} (a b:Mk α):Mk α
 |u6 {α:Type} (a:Mk α) (J:List Value→aa→Option α) (b:Mk α):Mk α
 |cond {α:Type} (a b:Mk α):Mk α
 |block {α:Type} (a:Mk α):Mk α
 |scope {α:Type} (a:Mk α):Mk α
 |loop {α:Type} (f:List Value→aa→bk) (a:Mk (bG×List Value×aa)):Mk α
abbrev KJ (P:Program)(C:ae)(keep:List Nat)(n:Nat):{α:Type}→Code→List Value→aa→(bG→List Value→aa→Option α)→Option α
 |_,.skip,vs,H,k=>k .normal vs H
 |_,.label _,vs,H,k=>k .normal vs H
 |_,.region _ ops draw,vs,H,k=>xy P C ops draw (keep.zip vs) H λE H'=>k .normal (keep.map E.get) H'
 |_,.seq a b,vs,H,k=>KJ P C keep n a vs H (A7 (λiY H'=>KJ P C keep n b iY H' k) k)
 |_,.cond c a b,vs,H,k=>aT (eF (keep.zip vs) c) (KJ P C keep n a vs H k) (KJ P C keep n b vs H k)
 |_,.block id c,vs,H,k=>KJ P C keep n c vs H (Im id k)
 |_,.loop c,vs,H,k=>cm (iter n (λvs H=>nU P C keep n c vs H fin) vs H) k
 |_,.exit id,vs,H,k=>k (.exit id) vs H
 |_,.scope c,vs,H,k=>KJ P C keep n c vs H k
 |_,.ret,vs,H,k=>k .ret vs H
 |_,.goto _,_,_,_=>none
 |_,.rangeFunc g ps x y,vs,H,k=>Ef (WI P.funcs.size C (eF (keep.zip vs) g) ⟨keep,vs,ps,x,y⟩ H) λe H'=>k e vs H'
 |_,.refuse _,_,_,_=>none
theorem W8 (P:Program)(C:ae)(keep:List Nat)(n:Nat)(c:Code): ∀{α:Type} (vs:List Value) (H:aa) (k:bG→List Value→aa→Option α),
  KJ P C keep n c vs H k=nU P C keep n c vs H k:=by
 induction c with
 |region p ops draw=>intros;simp only[KJ,nU,Et]
 |seq a b Km Kn=>intros;simp only[KJ,nU,Km,Kn,xx]
 |cond c a b Km Kn=>intros;simp only[KJ,nU,Km,Kn]
 |block id c ih=>intros;simp only[KJ,nU,ih,Ep]
 |scope c ih=>intros;simp only[KJ,nU,ih]
 |_=>intros;rfl
abbrev Cm (P:Program)(C:ae)(keep:List Nat)(n:Nat):{α:Type}→Mk α→Code→List Value→aa→(bG→List Value→aa→Option α)→Option α
 |_,.seq ma mb,.seq a b,vs,H,k=>Cm P C keep n ma a vs H (A7 (λiY H'=>Cm P C keep n mb b iY H' k) k)
 |_,.u6 ma J _,.seq a _,vs,H,k=>Cm P C keep n ma a vs H (A7 J k)
 |_,.cond ma mb,.cond c a b,vs,H,k=>aT (eF (keep.zip vs) c) (Cm P C keep n ma a vs H k) (Cm P C keep n mb b vs H k)
 |_,.block ma,.block id c,vs,H,k=>Cm P C keep n ma c vs H (Im id k)
 |_,.scope ma,.scope c,vs,H,k=>Cm P C keep n ma c vs H k
 |_,.loop f _,.loop _,vs,H,k=>cm (iter n f vs H) k
 |_,_,c,vs,H,k=>KJ P C keep n c vs H k
def tO (P:Program)(C:ae)(keep:List Nat)(n:Nat):{α:Type}→Mk α→Code→(bG→List Value→aa→Option α)→Prop
 |_,.seq ma mb,.seq a b,k=>tO P C keep n ma a (A7 (λiY H'=>Cm P C keep n mb b iY H' k) k)∧tO P C keep n mb b k
 |_,.u6 ma J mb,.seq a b,k=>tO P C keep n ma a (A7 J k)∧tO P C keep n mb b k∧∀vs H,Cm P C keep n mb b vs H k=J vs H
 |_,.cond ma mb,.cond _ a b,k=>tO P C keep n ma a k∧tO P C keep n mb b k
 |_,.block ma,.block id c,k=>tO P C keep n ma c (Im id k)
 |_,.scope ma,.scope c,k=>tO P C keep n ma c k
 |_,.loop f ma,.loop c,_=>tO P C keep n ma c fin∧∀vs H,Cm P C keep n ma c vs H fin=f vs H
 |_,.leaf,_,_=>True
 |_,_,_,_=>False
theorem W9 (P:Program)(C:ae)(keep:List Nat)(n:Nat){α:Type}(m:Mk α): ∀(c:Code) (vs:List Value) (H:aa) (k:bG→List Value→aa→Option α),
  tO P C keep n m c k→Cm P C keep n m c vs H k=nU P C keep n c vs H k:=by
 induction m with
 |leaf=>intro c vs H k _;cases c<;>exact W8 ..
 |seq ma mb Km Kn=>
  intro c vs H k h;cases c with
  |seq a b=>
   obtain⟨h1,h2⟩:=h;simp only[Cm,nU];rw[Km a vs H _ h1];have:(λiY H'=>Cm P C keep n mb b iY H' k)=λiY H'=>nU P C keep n b iY H' k:=by funext iY H';exact Kn b iY H' k h2
   rw[this,xx]
  |_=>exact h.elim
 |u6 ma J mb Km Kn=>
  intro c vs H k h;cases c with
  |seq a b=>
   obtain⟨h1,h2,h3⟩:=h;simp only[Cm,nU];rw[Km a vs H _ h1];have:J=λiY H'=>nU P C keep n b iY H' k:=by funext iY H';rw[←h3];exact Kn b iY H' k h2
   rw[←this,xx]
  |_=>exact h.elim
 |cond ma mb Km Kn=>
  intro c vs H k h;cases c with
  |cond c a b=>obtain⟨h1,h2⟩:=h;simp only[Cm,nU];rw[Km a vs H k h1,Kn b vs H k h2]
  |_=>exact h.elim
 |block ma ih=>
  intro c vs H k h;cases c with
  |block id c=>simp only[Cm,nU];rw[ih c vs H _ h,Ep]
  |_=>exact h.elim
 |scope ma ih=>
  intro c vs H k h;cases c with
  |scope c=>simp only[Cm,nU];exact ih c vs H k h
  |_=>exact h.elim
 |loop f ma ih=>
  intro c vs H k h;cases c with
  |loop c=>
   obtain⟨h1,h2⟩:=h;simp only[Cm,nU];have:f=λvs H=>nU P C keep n c vs H fin:=by funext vs H;rw[←h2];exact ih c vs H fin h1
   rw[←this]
  |_=>exact h.elim
theorem Io {P:Program}{C:ae}{n:Nat}{fn:Func}{keep:List Nat}{c:Code}(hc:fn.body=some c)(m:Mk (Value×aa))(h:tO P C keep n m c (ek P fn.results.toList keep))(args:List Value)(H:aa):
  HS P C n fn keep args H=Cm P C keep n m c (keep.map λt=>args.getD t undef) H (ek P fn.results.toList keep):=by
 unfold HS;rw[hc];exact(W9 P C keep n m c _ H _ h).symm
end Go.Proofs.YtgfgglponbmgmaaGreatA.Am
end
