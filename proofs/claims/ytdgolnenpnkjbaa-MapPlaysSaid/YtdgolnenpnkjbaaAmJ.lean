/-
The evaluator of AmK with joins and loops given by name: so that a great function's term is compared with its code once a join, not once an arrival.
The words here are abbreviations, so that the kernel unfolds them ahead of the named joins.
-/
import Derived.Test.YtdgolnenpnkjbaaAmK
namespace Go.Proofs.YtdgolnenpnkjbaaA.Am

abbrev kSeqA {α : Type} (kb : List Value → Heap → Option α) (k : AExit → List Value → Heap → Option α) : AExit → List Value → Heap → Option α :=
  fun e vs H => match e with
    | .normal => kb vs H
    | e => k e vs H
abbrev kBlkA {α : Type} (id : Nat) (k : AExit → List Value → Heap → Option α) : AExit → List Value → Heap → Option α :=
  fun e vs H => match e with
    | .exit i => if i = id then k .normal vs H else k (.exit i) vs H
    | e => k e vs H
theorem kSeqA_eq {α : Type} (kb : List Value → Heap → Option α) (k : AExit → List Value → Heap → Option α) : kSeqA kb k = kSeq kb k := rfl
theorem kBlkA_eq {α : Type} (id : Nat) (k : AExit → List Value → Heap → Option α) : kBlkA id k = kBlk id k := rfl
abbrev kOpsA {α : Type} (P : Program) (C : Oracle) (ops : Array Oper) : List Oper → Env → Heap → (Env → Heap → Option α) → Option α
  | [], E, H, k => k E H
  | o :: r, E, H, k => bnd (match o.guard with
      | none => aexec P C E H o
      | some _ => gd (awant ops o E) (aexec P C E H o) H) fun v H' => kOpsA P C ops r (E.put o.dst v) H' k
theorem kOpsA_eq {α : Type} (P : Program) (C : Oracle) (ops : Array Oper) (l : List Oper) (E : Env) (H : Heap) (k : Env → Heap → Option α) : kOpsA P C ops l E H k = kOps P C ops l E H k := by
  induction l generalizing E H with
  | nil => rfl
  | cons o r ih => simp only [kOpsA, kOps, ih]; rfl
abbrev kOpsTA {α : Type} (P : Program) (C : Oracle) (ops : Array Oper) : List Oper → Env → Heap → List (Env × Heap) → (Env → Heap → List (Env × Heap) → Option α) → Option α
  | [], E, H, T, k => k E H (T ++ [(E, H)])
  | o :: r, E, H, T, k => bnd (match o.guard with
      | none => aexec P C E H o
      | some _ => gd (awant ops o E) (aexec P C E H o) H) fun v H' => kOpsTA P C ops r (E.put o.dst v) H' (T ++ [(E, H)]) k
theorem kOpsTA_eq {α : Type} (P : Program) (C : Oracle) (ops : Array Oper) (l : List Oper) (E : Env) (H : Heap) (T : List (Env × Heap)) (k : Env → Heap → List (Env × Heap) → Option α) : kOpsTA P C ops l E H T k = kOpsT P C ops l E H T k := by
  induction l generalizing E H T with
  | nil => rfl
  | cons o r ih => simp only [kOpsTA, kOpsT, ih]; rfl
abbrev kOpsIA {α : Type} (P : Program) (C : Oracle) (F : List Nat) (base : Nat) (ops : Array Oper) : List Oper → Nat → Env → Heap → (Env → Heap → Option α) → Option α
  | [], _, E, H, k => k E H
  | o :: r, j, E, H, k => bnd (match o.guard with
      | none => aexecI P C F base j E H o
      | some _ => gd (awant ops o E) (aexecI P C F base j E H o) H) fun v H' => kOpsIA P C F base ops r (j + 1) (E.put o.dst v) H' k
theorem kOpsIA_eq {α : Type} (P : Program) (C : Oracle) (F : List Nat) (base : Nat) (ops : Array Oper) (l : List Oper) (j : Nat) (E : Env) (H : Heap) (k : Env → Heap → Option α) : kOpsIA P C F base ops l j E H k = kOpsI P C F base ops l j E H k := by
  induction l generalizing j E H with
  | nil => rfl
  | cons o r ih => simp only [kOpsIA, kOpsI, ih]; rfl
abbrev kOpsITA {α : Type} (P : Program) (C : Oracle) (F : List Nat) (base : Nat) (ops : Array Oper) : List Oper → Nat → Env → Heap → List (Env × Heap) → (Env → Heap → List (Env × Heap) → Option α) → Option α
  | [], _, E, H, T, k => k E H (T ++ [(E, H)])
  | o :: r, j, E, H, T, k => bnd (match o.guard with
      | none => aexecI P C F base j E H o
      | some _ => gd (awant ops o E) (aexecI P C F base j E H o) H) fun v H' => kOpsITA P C F base ops r (j + 1) (E.put o.dst v) H' (T ++ [(E, H)]) k
theorem kOpsITA_eq {α : Type} (P : Program) (C : Oracle) (F : List Nat) (base : Nat) (ops : Array Oper) (l : List Oper) (j : Nat) (E : Env) (H : Heap) (T : List (Env × Heap)) (k : Env → Heap → List (Env × Heap) → Option α) : kOpsITA P C F base ops l j E H T k = kOpsIT P C F base ops l j E H T k := by
  induction l generalizing j E H T with
  | nil => rfl
  | cons o r ih => simp only [kOpsITA, kOpsIT, ih]; rfl
abbrev kRegionA {α : Type} (P : Program) (C : Oracle) (ops : Array Oper) (draw : Bool) (E : Env) (H : Heap) (k : Env → Heap → Option α) : Option α :=
  if draw then
    match fills P ops with
    | [] => match confs P ops with
      | [] => kOpsA P C ops ops.toList E H k
      | cs => kOpsTA P C ops ops.toList E H [] fun E' H' T => if cs.all (confOk P ops T) then k E' H' else none
    | F => holesK F.length H fun base H => match confs P ops with
      | [] => kOpsIA P C F base ops ops.toList 0 E H k
      | cs => kOpsITA P C F base ops ops.toList 0 E H [] fun E' H' T => if cs.all (confOk P ops T) then k E' H' else none
  else kOpsA P C ops ops.toList E H k
theorem kRegionA_eq {α : Type} (P : Program) (C : Oracle) (ops : Array Oper) (draw : Bool) (E : Env) (H : Heap) (k : Env → Heap → Option α) : kRegionA P C ops draw E H k = kRegion P C ops draw E H k := by
  simp only [kRegionA, kRegion, kOpsA_eq, kOpsTA_eq, kOpsIA_eq, kOpsITA_eq]; rfl

/-- A code's joins and loops by name. -/
inductive Mk : Type → Type 1 where
  | leaf {α : Type} : Mk α
  | seq {α : Type} (a b : Mk α) : Mk α
  | seqJ {α : Type} (a : Mk α) (J : List Value → Heap → Option α) (b : Mk α) : Mk α
  | cond {α : Type} (a b : Mk α) : Mk α
  | block {α : Type} (a : Mk α) : Mk α
  | scope {α : Type} (a : Mk α) : Mk α
  | loop {α : Type} (f : List Value → Heap → AOut) (a : Mk (AExit × List Value × Heap)) : Mk α
/-- Code without named parts. -/
abbrev evl (P : Program) (C : Oracle) (keep : List Nat) (n : Nat) : {α : Type} → Code → List Value → Heap → (AExit → List Value → Heap → Option α) → Option α
  | _, .skip, vs, H, k => k .normal vs H
  | _, .label _, vs, H, k => k .normal vs H
  | _, .region _ ops draw, vs, H, k => kRegionA P C ops draw (keep.zip vs) H fun E H' => k .normal (keep.map E.get) H'
  | _, .seq a b, vs, H, k => evl P C keep n a vs H (kSeqA (fun vs' H' => evl P C keep n b vs' H' k) k)
  | _, .cond c a b, vs, H, k => brB (aeval (keep.zip vs) c) (evl P C keep n a vs H k) (evl P C keep n b vs H k)
  | _, .block id c, vs, H, k => evl P C keep n c vs H (kBlkA id k)
  | _, .loop c, vs, H, k => onOut (iter n (fun vs H => evk P C keep n c vs H fin) vs H) k
  | _, .exit id, vs, H, k => k (.exit id) vs H
  | _, .scope c, vs, H, k => evl P C keep n c vs H k
  | _, .ret, vs, H, k => k .ret vs H
  | _, .goto _, _, _, _ => none
  | _, .rangeFunc g ps x y, vs, H, k => onRng (rngC P.funcs.size C (aeval (keep.zip vs) g) ⟨keep, vs, ps, x, y⟩ H) fun e H' => k e vs H'
  | _, .refuse _, _, _, _ => none
theorem evl_eq (P : Program) (C : Oracle) (keep : List Nat) (n : Nat) (c : Code) : ∀ {α : Type} (vs : List Value) (H : Heap) (k : AExit → List Value → Heap → Option α),
    evl P C keep n c vs H k = evk P C keep n c vs H k := by
  induction c with
  | region p ops draw => intros; simp only [evl, evk, kRegionA_eq]
  | seq a b iha ihb => intros; simp only [evl, evk, iha, ihb, kSeqA_eq]
  | cond c a b iha ihb => intros; simp only [evl, evk, iha, ihb]
  | block id c ih => intros; simp only [evl, evk, ih, kBlkA_eq]
  | scope c ih => intros; simp only [evl, evk, ih]
  | _ => intros; rfl
abbrev evj (P : Program) (C : Oracle) (keep : List Nat) (n : Nat) : {α : Type} → Mk α → Code → List Value → Heap → (AExit → List Value → Heap → Option α) → Option α
  | _, .seq ma mb, .seq a b, vs, H, k => evj P C keep n ma a vs H (kSeqA (fun vs' H' => evj P C keep n mb b vs' H' k) k)
  | _, .seqJ ma J _, .seq a _, vs, H, k => evj P C keep n ma a vs H (kSeqA J k)
  | _, .cond ma mb, .cond c a b, vs, H, k => brB (aeval (keep.zip vs) c) (evj P C keep n ma a vs H k) (evj P C keep n mb b vs H k)
  | _, .block ma, .block id c, vs, H, k => evj P C keep n ma c vs H (kBlkA id k)
  | _, .scope ma, .scope c, vs, H, k => evj P C keep n ma c vs H k
  | _, .loop f _, .loop _, vs, H, k => onOut (iter n f vs H) k
  | _, _, c, vs, H, k => evl P C keep n c vs H k
/-- The names are right. -/
def okMk (P : Program) (C : Oracle) (keep : List Nat) (n : Nat) : {α : Type} → Mk α → Code → (AExit → List Value → Heap → Option α) → Prop
  | _, .seq ma mb, .seq a b, k => okMk P C keep n ma a (kSeqA (fun vs' H' => evj P C keep n mb b vs' H' k) k) ∧ okMk P C keep n mb b k
  | _, .seqJ ma J mb, .seq a b, k => okMk P C keep n ma a (kSeqA J k) ∧ okMk P C keep n mb b k ∧ ∀ vs H, evj P C keep n mb b vs H k = J vs H
  | _, .cond ma mb, .cond _ a b, k => okMk P C keep n ma a k ∧ okMk P C keep n mb b k
  | _, .block ma, .block id c, k => okMk P C keep n ma c (kBlkA id k)
  | _, .scope ma, .scope c, k => okMk P C keep n ma c k
  | _, .loop f ma, .loop c, _ => okMk P C keep n ma c fin ∧ ∀ vs H, evj P C keep n ma c vs H fin = f vs H
  | _, .leaf, _, _ => True
  | _, _, _, _ => False
theorem evj_eq (P : Program) (C : Oracle) (keep : List Nat) (n : Nat) {α : Type} (m : Mk α) : ∀ (c : Code) (vs : List Value) (H : Heap) (k : AExit → List Value → Heap → Option α),
    okMk P C keep n m c k → evj P C keep n m c vs H k = evk P C keep n c vs H k := by
  induction m with
  | leaf => intro c vs H k _; cases c <;> exact evl_eq ..
  | seq ma mb iha ihb =>
    intro c vs H k h
    cases c with
    | seq a b =>
      obtain ⟨h1, h2⟩ := h
      simp only [evj, evk]
      rw [iha a vs H _ h1]
      have : (fun vs' H' => evj P C keep n mb b vs' H' k) = fun vs' H' => evk P C keep n b vs' H' k := by funext vs' H'; exact ihb b vs' H' k h2
      rw [this, kSeqA_eq]
    | _ => exact h.elim
  | seqJ ma J mb iha ihb =>
    intro c vs H k h
    cases c with
    | seq a b =>
      obtain ⟨h1, h2, h3⟩ := h
      simp only [evj, evk]
      rw [iha a vs H _ h1]
      have : J = fun vs' H' => evk P C keep n b vs' H' k := by funext vs' H'; rw [← h3]; exact ihb b vs' H' k h2
      rw [← this, kSeqA_eq]
    | _ => exact h.elim
  | cond ma mb iha ihb =>
    intro c vs H k h
    cases c with
    | cond c a b => obtain ⟨h1, h2⟩ := h; simp only [evj, evk]; rw [iha a vs H k h1, ihb b vs H k h2]
    | _ => exact h.elim
  | block ma ih =>
    intro c vs H k h
    cases c with
    | block id c => simp only [evj, evk]; rw [ih c vs H _ h, kBlkA_eq]
    | _ => exact h.elim
  | scope ma ih =>
    intro c vs H k h
    cases c with
    | scope c => simp only [evj, evk]; exact ih c vs H k h
    | _ => exact h.elim
  | loop f ma ih =>
    intro c vs H k h
    cases c with
    | loop c =>
      obtain ⟨h1, h2⟩ := h
      simp only [evj, evk]
      have : f = fun vs H => evk P C keep n c vs H fin := by funext vs H; rw [← h2]; exact ih c vs H fin h1
      rw [← this]
    | _ => exact h.elim
theorem kFunc_j {P : Program} {C : Oracle} {n : Nat} {fn : Func} {keep : List Nat} {c : Code} (hc : fn.body = some c) (m : Mk (Value × Heap)) (h : okMk P C keep n m c (kRet P fn.results.toList keep)) (args : List Value) (H : Heap) :
    kFunc P C n fn keep args H = evj P C keep n m c (keep.map fun t => args.getD t undef) H (kRet P fn.results.toList keep) := by
  unfold kFunc; rw [hc]; exact (evj_eq P C keep n m c _ H _ h).symm
end Go.Proofs.YtdgolnenpnkjbaaA.Am
