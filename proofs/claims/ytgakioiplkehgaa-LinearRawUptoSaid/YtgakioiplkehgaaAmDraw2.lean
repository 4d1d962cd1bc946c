/-
A region whose order is drawn, gone through: the theorem.
-/
import Derived.Test.YtgakioiplkehgaaAmDraw
namespace Go.Proofs.YtgakioiplkehgaaA.Am
open Go.RowKit (Below)
variable {P : Program} {μ : Mu} {H H' : Heap} {w : World} {B : Nat}

section
variable (P : Program) (F : List Nat) (base : Nat) (ops : Array Oper) (S : Nat → Env × Heap) (val : Nat → Value) (L : Nat → Bool)
def dstOf (k : Nat) : Option Nat := (ops[k]?).bind (·.dst)
/-- What the slots hold when just the operations of L are done. -/
def fenv : Nat → Nat → Value
  | 0, t => (S 0).1.get t
  | k + 1, t => if L k = true ∧ dstOf ops k = some t then val k else fenv k t
/-- Operation k writes or calls, and is wanted. -/
def effW (k : Nat) : Bool := match ops[k]? with
  | some o => decide (cls P o.op = .eff) && (awant ops o (S k).1 == some true)
  | none => false
/-- The block of a laying. -/
def bOf (k : Nat) : Blk := match (S (k + 1)).2.get (base + F.idxOf k) with | some b => b | none => default
def lays (k : Nat) (X : Heap) : Heap := X.lay (base + F.idxOf k) (bOf F base S k)
/-- The heap when just the operations of L are done. -/
def hOf : Nat → Heap
  | 0 => (S 0).2
  | k + 1 => if L k = true ∧ effW P ops S k = true then (if F.contains k then lays F base S k (hOf k) else (S (k + 1)).2) else hOf k
/-- The layings of L from m on. -/
def layFrom (X : Heap) (m : Nat) : Nat → Heap
  | 0 => X
  | d + 1 => if L (m + d) = true ∧ F.contains (m + d) = true then lays F base S (m + d) (layFrom X m d) else layFrom X m d
def cntU : Nat → Nat
  | 0 => 0
  | k + 1 => cntU k + if L k then 0 else 1
end

variable {F : List Nat} {base : Nat} {ops : Array Oper} {S : Nat → Env × Heap} {val : Nat → Value} {L L' : Nat → Bool} {C : Oracle}

theorem fenv_eq {i t : Nat} (hst : ∀ k o, ops[k]? = some o → stepI P C F base ops k o (S k) (S (k + 1)) (val k)) (hn : i ≤ ops.size) (h : ∀ k, k < i → dstOf ops k = some t → L k = true) :
    fenv ops S val L i t = (S i).1.get t := by
  induction i with
  | zero => rfl
  | succ k ih =>
    have hk : k < ops.size := by omega
    have ho : ops[k]? = some ops[k] := Array.getElem?_eq_getElem hk
    have h1 := (hst k _ ho).1
    rw [h1, Env.get_put, fenv]
    have hd : dstOf ops k = ops[k].dst := by simp [dstOf, ho]
    by_cases e : dstOf ops k = some t
    · rw [if_pos ⟨h k (by omega) e, e⟩, if_pos (by rw [← hd]; exact e)]
    · rw [if_neg (fun x => e x.2), if_neg (by rw [← hd]; exact e)]
      exact ih (by omega) (fun j hj => h j (by omega))
theorem fenv_cut {i n t : Nat} (hin : i ≤ n) (h : ∀ k, i ≤ k → k < n → dstOf ops k = some t → L k = false) : fenv ops S val L n t = fenv ops S val L i t := by
  induction n with
  | zero => have : i = 0 := by omega
            subst this; rfl
  | succ k ih =>
    by_cases e : i = k + 1
    · subst e; rfl
    · rw [fenv, if_neg]
      · exact ih (by omega) (fun j h1 h2 => h j h1 (by omega))
      · rintro ⟨h1, h2⟩
        rw [h k (by omega) (by omega) h2] at h1; cases h1
theorem fenv_up {i n t : Nat} (hin : i < n) (hi : L' i = true) (hne : ∀ k, k ≠ i → L' k = L k) (h : dstOf ops i = some t → ∀ k, i < k → k < n → dstOf ops k = some t → L k = false) :
    fenv ops S val L' n t = if dstOf ops i = some t then val i else fenv ops S val L n t := by
  induction n with
  | zero => omega
  | succ k ih =>
    by_cases e : i = k
    · subst e
      rw [fenv, fenv]
      have hlow : ∀ m, m ≤ i → fenv ops S val L' m t = fenv ops S val L m t := by
        intro m hm
        induction m with
        | zero => rfl
        | succ j ihj => rw [fenv, fenv, hne j (by omega), ihj (by omega)]
      by_cases hd : dstOf ops i = some t
      · rw [if_pos ⟨hi, hd⟩, if_pos hd]
      · rw [if_neg (fun x => hd x.2), if_neg hd, if_neg (fun x => hd x.2)]; exact hlow i (Nat.le_refl _)
    · rw [fenv, fenv, hne k (by omega), ih (by omega) (fun a b c d => h a b c (by omega))]
      by_cases hd : dstOf ops i = some t
      · rw [if_pos hd]
        by_cases hk : L k = true ∧ dstOf ops k = some t
        · rw [h hd k (by omega) (by omega) hk.2] at hk; cases hk.1
        · rw [if_neg hk, if_pos hd]
      · rw [if_neg hd, if_neg hd]

theorem heap_same {k : Nat} {o : Oper} (hst : stepI P C F base ops k o (S k) (S (k + 1)) (val k)) (ho : ops[k]? = some o) (hb : cls P o.op ≠ .bad) (hF : F.contains k = true → cls P o.op = .eff) (h : effW P ops S k = false) : (S (k + 1)).2 = (S k).2 := by
  rcases hst.2 with ⟨hw, hx⟩ | ⟨hw, _, hx⟩
  · have hc : cls P o.op ≠ .eff := by
      intro e
      simp [effW, ho, e, hw] at h
    have hnF : ¬ F.contains k = true := fun e => hc (hF e)
    unfold aexecI at hx
    rw [if_neg hnF, ← aexecF_get] at hx
    unfold aexecF at hx
    split at hx
    · rename_i e
      rw [e] at hc; exact absurd rfl hc
    · exact aop_quiet hc hb hx
  · exact hx

theorem idx_ne {j k : Nat} (hj : F.contains j = true) (hjk : j ≠ k) : base + F.idxOf j ≠ base + F.idxOf k := by
  intro e
  have e' : F.idxOf j = F.idxOf k := by omega
  have hj' : j ∈ F := by simpa using hj
  have hlt := List.idxOf_lt_length_of_mem hj'
  have h1 := List.getElem_idxOf hlt
  have hlt2 : F.idxOf k < F.length := by omega
  have h2 := List.getElem_idxOf hlt2
  apply hjk
  rw [← h1, ← h2]
  simp only [e']

theorem hOf_eq {i : Nat} (hsame : ∀ k, k < i → effW P ops S k = false → (S (k + 1)).2 = (S k).2) (hfill : ∀ k, k < i → F.contains k = true → effW P ops S k = true → (S (k + 1)).2 = lays F base S k (S k).2)
    (h : ∀ k, k < i → effW P ops S k = true → L k = true) : hOf P F base ops S L i = (S i).2 := by
  induction i with
  | zero => rfl
  | succ k ih =>
    have ihk := ih (fun j hj => hsame j (by omega)) (fun j hj => hfill j (by omega)) (fun j hj => h j (by omega))
    rw [hOf]
    by_cases e : effW P ops S k = true
    · rw [if_pos ⟨h k (by omega) e, e⟩]
      by_cases hF : F.contains k = true
      · rw [if_pos hF, ihk]; exact (hfill k (by omega) hF e).symm
      · rw [if_neg hF]
    · rw [if_neg (fun x => e x.2), ihk, hsame k (by omega) (by simpa using e)]
theorem hOf_same {n : Nat} (h : ∀ k, k < n → effW P ops S k = true → L' k = L k) : hOf P F base ops S L' n = hOf P F base ops S L n := by
  induction n with
  | zero => rfl
  | succ k ih =>
    rw [hOf, hOf, ih (fun j hj => h j (by omega))]
    by_cases e : effW P ops S k = true
    · rw [h k (by omega) e]
    · rw [if_neg (fun x => e x.2), if_neg (fun x => e x.2)]
/-- No loud one of L from m on. -/
theorem hOf_from {m : Nat} (hF : ∀ k, F.contains k = true → effW P ops S k = true) : ∀ d, (∀ k, m ≤ k → k < m + d → L k = true → effW P ops S k = true → F.contains k = true) →
    hOf P F base ops S L (m + d) = layFrom F base S L (hOf P F base ops S L m) m d := by
  intro d
  induction d with
  | zero => intro _; rfl
  | succ d ih =>
    intro h
    have ihd := ih (fun k h1 h2 => h k h1 (by omega))
    rw [← Nat.add_assoc, hOf, layFrom, ihd]
    by_cases e : L (m + d) = true ∧ effW P ops S (m + d) = true
    · have hf := h (m + d) (by omega) (by omega) e.1 e.2
      rw [if_pos e, if_pos hf, if_pos ⟨e.1, hf⟩]
    · rw [if_neg e, if_neg (fun x => e ⟨x.1, hF _ x.2⟩)]
theorem hOf_last (hF : ∀ k, F.contains k = true → effW P ops S k = true) (n : Nat) :
    ∃ m, m ≤ n ∧ hOf P F base ops S L n = layFrom F base S L (S m).2 m (n - m) ∧ (m = 0 ∨ ∃ p, m = p + 1 ∧ L p = true ∧ effW P ops S p = true ∧ F.contains p = false) ∧
      (∀ k, m ≤ k → k < n → L k = true → effW P ops S k = true → F.contains k = true) := by
  have key : ∃ m, m ≤ n ∧ hOf P F base ops S L m = (S m).2 ∧ (m = 0 ∨ ∃ p, m = p + 1 ∧ L p = true ∧ effW P ops S p = true ∧ F.contains p = false) ∧
      (∀ k, m ≤ k → k < n → L k = true → effW P ops S k = true → F.contains k = true) := by
    induction n with
    | zero => exact ⟨0, Nat.le_refl _, rfl, .inl rfl, fun k _ hk => by omega⟩
    | succ k ih =>
      by_cases e : L k = true ∧ effW P ops S k = true ∧ F.contains k = false
      · refine ⟨k + 1, Nat.le_refl _, ?_, .inr ⟨k, rfl, e.1, e.2.1, e.2.2⟩, fun j h1 h2 => by omega⟩
        rw [hOf, if_pos ⟨e.1, e.2.1⟩, if_neg (by rw [e.2.2]; simp)]
      · obtain ⟨m, h1, h2, h3, h4⟩ := ih
        refine ⟨m, by omega, h2, h3, fun j a1 a2 a3 a4 => ?_⟩
        by_cases ej : j = k
        · subst ej
          cases hf : F.contains j with
          | true => rfl
          | false => exact absurd ⟨a3, a4, hf⟩ e
        · exact h4 j a1 (by omega) a3 a4
  obtain ⟨m, h1, h2, h3, h4⟩ := key
  refine ⟨m, h1, ?_, h3, h4⟩
  have := hOf_from (base := base) (L := L) hF (m := m) (n - m) (fun k a b => h4 k a (by omega))
  rw [show m + (n - m) = n by omega] at this
  rw [this, h2]

theorem lays_comm {j k : Nat} (hj : F.contains j = true) (hjk : j ≠ k) (X : Heap) : lays F base S j (lays F base S k X) = lays F base S k (lays F base S j X) := by
  unfold lays
  exact lay_set (idx_ne hj hjk) _
/-- The first of them first. -/
theorem layFrom_succ (X : Heap) (m : Nat) : ∀ d, layFrom F base S L X m (d + 1) = layFrom F base S L (if L m = true ∧ F.contains m = true then lays F base S m X else X) (m + 1) d := by
  intro d
  induction d with
  | zero => simp only [layFrom, Nat.add_zero]
  | succ d ih =>
    rw [layFrom, ih]
    conv => rhs; rw [layFrom]
    rw [show m + 1 + d = m + (d + 1) by omega]
theorem layFrom_same {X : Heap} {m : Nat} : ∀ d, (∀ k, m ≤ k → k < m + d → L' k = L k) → layFrom F base S L' X m d = layFrom F base S L X m d := by
  intro d
  induction d with
  | zero => intro _; rfl
  | succ d ih =>
    intro h
    rw [layFrom, layFrom, ih (fun k h1 h2 => h k h1 (by omega)), h (m + d) (by omega) (by omega)]
/-- One more. -/
theorem layFrom_up {X : Heap} {m i : Nat} (hi : F.contains i = true) (h0 : L i = false) (h1 : L' i = true) (hne : ∀ k, k ≠ i → L' k = L k) : ∀ d, m ≤ i → i < m + d → layFrom F base S L' X m d = lays F base S i (layFrom F base S L X m d) := by
  intro d
  induction d with
  | zero => intro h2 h3; omega
  | succ d ih =>
    intro h2 h3
    rw [layFrom, layFrom]
    by_cases e : i = m + d
    · subst e
      rw [if_pos ⟨h1, hi⟩, if_neg (by rw [h0]; simp), layFrom_same d (fun k a b => hne k (by omega))]
    · rw [hne (m + d) (Ne.symm e), ih h2 (by omega)]
      by_cases c : L (m + d) = true ∧ F.contains (m + d) = true
      · rw [if_pos c, if_pos c, lays_comm c.2 (Ne.symm e)]
      · rw [if_neg c, if_neg c]
theorem layFrom_free {X : Heap} {m j : Nat} (_hj : F.contains j = true) (hf : Free X (base + F.idxOf j)) : ∀ d, (∀ k, m ≤ k → k < m + d → L k = true → k ≠ j) → Free (layFrom F base S L X m d) (base + F.idxOf j) := by
  intro d
  induction d with
  | zero => intro _; exact hf
  | succ d ih =>
    intro h
    rw [layFrom]
    have := ih (fun k h1 h2 => h k h1 (by omega))
    by_cases c : L (m + d) = true ∧ F.contains (m + d) = true
    · rw [if_pos c]
      exact this.set (idx_ne c.2 (h _ (by omega) (by omega) c.1)) _
    · rw [if_neg c]; exact this
/-- What is told ahead of layings is told behind them. -/
theorem layFrom_told {f : Heap → Option (Value × Heap)} {X X' : Heap} {v : Value} {m : Nat} (hup : ∀ k, F.contains k = true → m ≤ k → ∀ Y b, Up (base + F.idxOf k) b Y (f Y) (f (Y.lay (base + F.idxOf k) b))) (h : f X = some (v, X')) :
    ∀ d, (∀ k, m ≤ k → F.contains k = true → Free X (base + F.idxOf k)) → f (layFrom F base S L X m d) = some (v, layFrom F base S L X' m d) := by
  intro d
  induction d with
  | zero => intro _; exact h
  | succ d ih =>
    intro hf
    have := ih hf
    rw [layFrom, layFrom]
    by_cases c : L (m + d) = true ∧ F.contains (m + d) = true
    · rw [if_pos c, if_pos c]
      have hfr : Free (layFrom F base S L X m d) (base + F.idxOf (m + d)) := layFrom_free c.2 (hf _ (by omega) c.2) d (fun k h1 h2 _ => by omega)
      exact (hup _ c.2 (by omega) _ _ hfr _ _ this).2
    · rw [if_neg c, if_neg c]; exact this

theorem cnt_up {i n : Nat} (hin : i < n) (h0 : L i = false) (h1 : L' i = true) (hne : ∀ k, k ≠ i → L' k = L k) : cntU L' n + 1 = cntU L n := by
  induction n with
  | zero => omega
  | succ k ih =>
    have hlow : ∀ m, m ≤ i → cntU L' m = cntU L m := by
      intro m hm
      induction m with
      | zero => rfl
      | succ j ihj => rw [cntU, cntU, hne j (by omega), ihj (by omega)]
    by_cases e : i = k
    · subst e; rw [cntU, cntU, h0, h1, hlow i (Nat.le_refl _)]; simp
    · rw [cntU, cntU, hne k (by omega)]; have := ih (by omega); omega
theorem cnt_zero {n : Nat} (h : cntU L n = 0) : ∀ k, k < n → L k = true := by
  induction n with
  | zero => intro k hk; omega
  | succ m ih =>
    rw [cntU] at h
    intro k hk
    by_cases e : k = m
    · subst e
      cases hl : L k with
      | true => rfl
      | false => rw [hl] at h; simp at h
    · exact ih (by omega) k (by omega)

theorem eqV1_sound {a b : Value} (h : eqV1 a b = true) : a = b := by
  unfold eqV1 at h
  split at h
  · simpa using h
  · simp only [Bool.and_eq_true, decide_eq_true_eq, beq_iff_eq] at h; rw [h.1, h.2]
  · simpa using h
  · simpa using h
  · simp only [Bool.and_eq_true, decide_eq_true_eq, beq_iff_eq] at h; rw [h.1.1, h.1.2, h.2]
  · simpa using h
  · rfl
  · rfl
  · cases h
theorem eqList_sound : ∀ {a b : List Value}, eqList eqV1 a b = true → a = b
  | [], [], _ => rfl
  | a :: x, b :: y, h => by
    simp only [eqList, Bool.and_eq_true] at h
    rw [eqV1_sound h.1, eqList_sound h.2]
  | [], _ :: _, h => by simp [eqList] at h
  | _ :: _, [], h => by simp [eqList] at h
theorem eqV_sound {a b : Value} (h : eqV a b = true) : a = b := by
  unfold eqV at h
  split at h
  · have := eqList_sound h
    rw [Array.toList_inj] at this; rw [this]
  · exact eqV1_sound h

theorem confs_mem {r e : Nat} {x y : Oper} (hx : ops[r]? = some x) (hy : ops[e]? = some y) (h1 : cls P x.op = .read) (h2 : cls P y.op = .eff) (h3 : bef (Region.before ops) r e = false) (h4 : bef (Region.before ops) e r = false) : (r, e) ∈ confs P ops := by
  unfold confs
  rw [List.mem_flatMap]
  refine ⟨r, List.mem_range.2 (Array.getElem?_eq_some_iff.1 hx).1, ?_⟩
  rw [List.mem_filterMap]
  refine ⟨e, List.mem_range.2 (Array.getElem?_eq_some_iff.1 hy).1, ?_⟩
  simp [hx, hy, h1, h2, h3, h4]

/-- What is known of a region that may be gone through in the text's order. -/
structure Plan (P : Program) (C : Oracle) (F : List Nat) (base : Nat) (ops : Array Oper) (S : Nat → Env × Heap) (val : Nat → Value) : Prop where
  st : ∀ (k : Nat) (o : Oper), ops[k]? = some o → stepI P C F base ops k o (S k) (S (k + 1)) (val k)
  edges : edgesOk ops = true
  good : ∀ (k : Nat) (o : Oper), ops[k]? = some o → cls P o.op ≠ .bad
  pair : ∀ (i j : Nat), i < j → j < ops.size → pairOk P F (Region.before ops) ops i j = true
  conf : ∀ (r e : Nat) (x y : Oper), ops[r]? = some x → ops[e]? = some y → cls P x.op = .read → cls P y.op = .eff → bef (Region.before ops) r e = false → bef (Region.before ops) e r = false →
    awant ops x (S r).1 = some true → effW P ops S e = true → (aop P (aeval (S r).1) (S r).2 x.op).map Prod.fst = (aop P (aeval (S r).1) (S e).2 x.op).map Prod.fst ∧
      (aop P (aeval (S r).1) (S r).2 x.op).map Prod.fst = (aop P (aeval (S r).1) (S (e + 1)).2 x.op).map Prod.fst
  lay : ∀ k, F.contains k = true → ∃ o, ops[k]? = some o ∧ isFill o = true
  free : ∀ k, F.contains k = true → Free (S 0).2 (base + F.idxOf k)
  hole : HoleOk C

theorem isFill_eff {o : Oper} (h : isFill o = true) : cls P o.op = .eff ∧ o.guard = none := by
  unfold isFill at h
  simp only [Bool.and_eq_true, Option.isNone_iff_eq_none] at h
  obtain ⟨h1, h2⟩ := h
  refine ⟨?_, h1⟩
  split at h2
  · rename_i e; rw [e]; rfl
  · rename_i e; rw [e]; rfl
  · rename_i e; rw [e]; rfl
  · cases h2
theorem holes_free (H : Heap) {n k : Nat} (h : k < n) : Free (H.holes n) (H.length + k) := by
  unfold Free Heap.holes
  rw [List.getElem?_append_right (by omega), List.getElem?_replicate]
  rw [if_pos (by omega)]

theorem Plan.of {E E' : Env} (hH : HoleOk C) (hok : drawOk P ops = true) (hrun : runRegion P C ops true E H = some (E', H')) :
    ∃ F base S val, Plan P C F base ops S val ∧ S 0 = (E, H.holes F.length) ∧ S ops.size = (E', H') := by
  unfold runRegion at hrun
  simp only [if_true] at hrun
  have hboth : runOpsI P C (fills P ops) H.length ops ops.toList 0 E (H.holes (fills P ops).length) = some (E', H') ∧ (confs P ops).all (confOk P ops (traceI P C (fills P ops) H.length ops ops.toList 0 E (H.holes (fills P ops).length))) = true := by
    cases hF : fills P ops with
    | nil =>
      rw [hF] at hrun
      simp only at hrun
      have e0 : H.holes ([] : List Nat).length = H := by simp [Heap.holes]
      rw [e0, (runOpsI_nil ops.toList 0 E H).1, (runOpsI_nil ops.toList 0 E H).2]
      split at hrun
      · rename_i hc; exact ⟨hrun, by rw [hc]; rfl⟩
      · rename_i cs hc
        split at hrun
        · rename_i hall; exact ⟨hrun, hall⟩
        · cases hrun
    | cons f F =>
      rw [hF] at hrun
      simp only at hrun
      split at hrun
      · rename_i hc; exact ⟨hrun, by rw [hc]; rfl⟩
      · rename_i cs hc
        split at hrun
        · rename_i hall; exact ⟨hrun, hall⟩
        · cases hrun
  obtain ⟨hr, hconf⟩ := hboth
  obtain ⟨S, val, h0, hl, hst, htr⟩ := run_states ops.toList 0 E _ _ hr
  simp only [drawOk, Bool.and_eq_true, List.all_eq_true, List.mem_range, decide_eq_true_eq] at hok
  obtain ⟨⟨hedge, hbad⟩, hpair⟩ := hok
  refine ⟨fills P ops, H.length, S, val, ⟨fun k o ho => by have := hst k o (by simpa using ho); rwa [Nat.zero_add] at this, hedge, ?_, fun i j hij hj => hpair j hj i hij, ?_, ?_, ?_, hH⟩, h0, by simpa using hl⟩
  · intro k o ho
    exact hbad o (by simpa using Array.mem_of_getElem? ho)
  · intro r e x y hx hy hread heff h1 h2 hw hew
    have hm := confs_mem (ops := ops) hx hy hread heff h1 h2
    have hc := List.all_eq_true.1 hconf _ hm
    have hrs : r < ops.size := (Array.getElem?_eq_some_iff.1 hx).1
    have hes : e < ops.size := (Array.getElem?_eq_some_iff.1 hy).1
    have t1 := htr r (by simp; omega)
    have t2 := htr e (by simp; omega)
    have t3 := htr (e + 1) (by simp; omega)
    unfold confOk at hc
    simp only [t1, t2, t3, hx, hy] at hc
    have hwe : awant ops y (S e).1 = some true := by simpa [effW, hy, heff] using hew
    simp only [hw, hwe] at hc
    split at hc
    · rename_i u _ u1 _ u2 _ e1 e2 e3
      simp only [Bool.and_eq_true] at hc
      rw [e1, e2, e3]
      simp only [Option.map_some]
      rw [← eqV_sound hc.1, ← eqV_sound hc.2]
      exact ⟨rfl, rfl⟩
    · cases hc
  · intro k hk
    have hk' : k ∈ fills P ops := by simpa using hk
    unfold fills at hk'
    simp only [List.mem_filter, List.mem_range] at hk'
    obtain ⟨_, h2⟩ := hk'
    split at h2
    · rename_i y hy
      simp only [Bool.and_eq_true] at h2
      exact ⟨y, hy, h2.1⟩
    · cases h2
  · intro k hk
    rw [h0]
    exact holes_free H (List.idxOf_lt_length_of_mem (by simpa using hk))

theorem Plan.effF (h : Plan P C F base ops S val) : ∀ k, F.contains k = true → effW P ops S k = true := by
  intro k hk
  obtain ⟨o, ho, hf⟩ := h.lay k hk
  obtain ⟨h1, h2⟩ := isFill_eff (P := P) hf
  simp [effW, ho, h1, awant, h2]
theorem Plan.same (h : Plan P C F base ops S val) : ∀ k, k < ops.size → effW P ops S k = false → (S (k + 1)).2 = (S k).2 := by
  intro k hk he
  have ho : ops[k]? = some ops[k] := Array.getElem?_eq_getElem hk
  refine heap_same (h.st k _ ho) ho (h.good k _ ho) (fun hF => ?_) he
  obtain ⟨o, ho', hf⟩ := h.lay k hF
  rw [ho] at ho'; cases ho'
  exact (isFill_eff hf).1
theorem Plan.fillAt (h : Plan P C F base ops S val) (k : Nat) (hk : F.contains k = true) : ∃ o mk, ops[k]? = some o ∧ Free (S k).2 (base + F.idxOf k) ∧ fillB P (aeval (S k).1) o.op = some (mk, bOf F base S k) ∧ val k = mk (base + F.idxOf k) ∧ (S (k + 1)).2 = lays F base S k (S k).2 := by
  obtain ⟨o, ho, hf⟩ := h.lay k hk
  obtain ⟨_, hg⟩ := isFill_eff (P := P) hf
  rcases (h.st k o ho).2 with ⟨hw, hx⟩ | ⟨hw, _⟩
  · unfold aexecI at hx
    rw [if_pos hk] at hx
    unfold afill at hx
    split at hx
    case h_2 => cases hx
    rename_i hfr
    split at hx
    case h_2 => cases hx
    rename_i mk b hb
    have hx' := Option.some.inj hx
    have e1 : mk (base + F.idxOf k) = val k := congrArg Prod.fst hx'
    have e2 : (S k).2.set (base + F.idxOf k) (.blk b) = (S (k + 1)).2 := congrArg Prod.snd hx'
    have hfr' : Free (S k).2 (base + F.idxOf k) := hfr
    have eb : bOf F base S k = b := by
      unfold bOf
      rw [← e2]
      have : Heap.get (List.set (S k).2 (base + F.idxOf k) (.blk b)) (base + F.idxOf k) = some b := get_lay_self hfr'.lt
      rw [this]
    refine ⟨o, mk, ho, hfr', by rw [eb]; exact hb, e1.symm, ?_⟩
    rw [← e2]; unfold lays; rw [eb]; rfl
  · simp [awant, hg] at hw
/-- Till it is laid its number is free. -/
theorem Plan.freeAt (h : Plan P C F base ops S val) {k : Nat} (hk : F.contains k = true) : ∀ m, m ≤ k → Free (S m).2 (base + F.idxOf k) := by
  intro m
  induction m with
  | zero => intro _; exact h.free k hk
  | succ m ih =>
    intro hm
    have hfm := ih (by omega)
    obtain ⟨ok, hok, _⟩ := h.lay k hk
    have hkl : k < ops.size := (Array.getElem?_eq_some_iff.1 hok).1
    have ho : ops[m]? = some ops[m] := Array.getElem?_eq_getElem (by omega)
    rcases (h.st m _ ho).2 with ⟨hw, hx⟩ | ⟨_, _, hx⟩
    · rw [← aexecIF_get] at hx
      exact (aexecIF_lay (b := default) h.hole (fun hc => idx_ne hc (by omega)) hfm _ _ hx).1
    · rw [hx]; exact hfm

/-- Operation i comes up: all that it looks at is as in the text's order. -/
theorem Plan.comes (h : Plan P C F base ops S val) {i : Nat} {o : Oper} (ho : ops[i]? = some o) (hi : L i = false) (hLi : L' i = true) (hLne : ∀ k, k ≠ i → L' k = L k)
    (hlow : ∀ k, k < i → L k = false → bef (Region.before ops) k i = false) (hhigh : ∀ k, L k = true → bef (Region.before ops) i k = false) :
    (∀ t ∈ o.looksAt ops, fenv ops S val L ops.size t = (S i).1.get t) ∧ (∀ t, o.dst = some t → ∀ k, i < k → k < ops.size → dstOf ops k = some t → L k = false) ∧
    (awant ops o (S i).1 = some true → aexecIF P C F base i (S i).1.get (hOf P F base ops S L ops.size) o = some (val i, hOf P F base ops S L' ops.size)) ∧
    (effW P ops S i = false → hOf P F base ops S L' ops.size = hOf P F base ops S L ops.size) := by
  have hin : i < ops.size := (Array.getElem?_eq_some_iff.1 ho).1
  -- pairs
  have low : ∀ (k : Nat) (x : Oper), k < i → ops[k]? = some x → L k = false → x.apart ops o = true ∧ (cls P x.op = .eff → cls P o.op = .eff → F.contains i = true) := by
    intro k x hk hx hl
    have hp := h.pair k i hk hin
    unfold pairOk at hp
    rw [hx, ho] at hp
    simp only [hlow k hk hl, Bool.false_or, Bool.and_eq_true] at hp
    obtain ⟨h1, h2⟩ := hp
    refine ⟨h1, fun a b => ?_⟩
    rw [a, b] at h2
    simpa using h2
  have high : ∀ (k : Nat) (y : Oper), i < k → ops[k]? = some y → L k = true → o.apart ops y = true ∧ (cls P o.op = .eff → cls P y.op = .eff → F.contains k = true) := by
    intro k y hk hy hl
    have hkn : k < ops.size := (Array.getElem?_eq_some_iff.1 hy).1
    have hp := h.pair i k hk hkn
    unfold pairOk at hp
    rw [hy, ho] at hp
    simp only [hhigh k hl, Bool.false_or, Bool.and_eq_true] at hp
    obtain ⟨h1, h2⟩ := hp
    refine ⟨h1, fun a b => ?_⟩
    rw [a, b] at h2
    simpa using h2
  have effOf : ∀ (k : Nat), effW P ops S k = true → ∃ x, ops[k]? = some x ∧ cls P x.op = .eff ∧ awant ops x (S k).1 = some true := by
    intro k hk
    unfold effW at hk
    split at hk
    · rename_i x hx
      simp only [Bool.and_eq_true, decide_eq_true_eq, beq_iff_eq] at hk
      exact ⟨x, hx, hk.1, hk.2⟩
    · cases hk
  have quiet : effW P ops S i = false → hOf P F base ops S L' ops.size = hOf P F base ops S L ops.size := fun he =>
    hOf_same fun k _ hk => hLne k (by rintro rfl; rw [he] at hk; cases hk)
  obtain ⟨m, hmn, hm1, hm2, hm3⟩ := hOf_last (P := P) (base := base) (ops := ops) (S := S) (L := L) h.effF ops.size
  -- from m on, nothing but layings
  have down : ∀ a, m ≤ a → a < i → (effW P ops S a = false ∨ L a = true) → layFrom F base S L (S a).2 a (ops.size - a) = layFrom F base S L (S (a + 1)).2 (a + 1) (ops.size - (a + 1)) := by
    intro a h1 h2 h3
    rw [show ops.size - a = (ops.size - (a + 1)) + 1 by omega, layFrom_succ]
    by_cases he : effW P ops S a = true
    · have hl : L a = true := by rcases h3 with h3 | h3
                                 · rw [he] at h3; cases h3
                                 · exact h3
      have hf := hm3 a h1 (by omega) hl he
      rw [if_pos ⟨hl, hf⟩]
      obtain ⟨_, _, _, _, _, _, e⟩ := h.fillAt a hf
      rw [e]
    · have he' : effW P ops S a = false := by simpa using he
      rw [if_neg (fun x => he (h.effF a x.2)), h.same a (by omega) he']
  refine ⟨?_, ?_, ?_, quiet⟩
  · intro t ht
    rw [fenv_cut (i := i) (by omega), fenv_eq (P := P) (C := C) (F := F) (base := base) h.st (by omega)]
    · intro k hk hd
      cases hl : L k with
      | true => rfl
      | false =>
        have hkn : k < ops.size := by omega
        have hx : ops[k]? = some ops[k] := Array.getElem?_eq_getElem hkn
        obtain ⟨h1, _, _⟩ := Oper.apart_spec (low k _ hk hx hl).1
        exact absurd ht (h1 t (by simpa [dstOf, hx] using hd))
    · intro k hk hkn hd
      by_cases e : k = i
      · subst e; exact hi
      · cases hl : L k with
        | false => rfl
        | true =>
          have hy : ops[k]? = some ops[k] := Array.getElem?_eq_getElem hkn
          obtain ⟨_, _, h3⟩ := Oper.apart_spec (high k _ (by omega) hy hl).1
          exact absurd ht (h3 t (by simpa [dstOf, hy] using hd))
  · intro t ht k hk hkn hd
    cases hl : L k with
    | false => rfl
    | true =>
      have hy : ops[k]? = some ops[k] := Array.getElem?_eq_getElem hkn
      obtain ⟨_, h2, _⟩ := Oper.apart_spec (high k _ hk hy hl).1
      exact absurd (by simpa [dstOf, hy] using hd) (h2 t ht)
  · intro hw
    have hst := h.st i o ho
    have hx : aexecI P C F base i (S i).1 (S i).2 o = some (val i, (S (i + 1)).2) := by
      rcases hst.2 with ⟨_, hx⟩ | ⟨hw2, _, _⟩
      · exact hx
      · rw [hw] at hw2; cases hw2
    have hx' := hx
    rw [← aexecIF_get] at hx'
    -- the last loud one lies ahead of i, if i is loud
    have mlow : cls P o.op = .eff → m ≤ i := by
      intro heff
      rcases hm2 with rfl | ⟨p, rfl, hp1, hp2, hp3⟩
      · omega
      · have hne : p ≠ i := by rintro rfl; rw [hi] at hp1; cases hp1
        have hpn : p < ops.size := by omega
        obtain ⟨y, hy, hye, _⟩ := effOf p hp2
        by_cases hlt : i < p
        · have := (high p y hlt hy hp1).2 heff hye
          rw [hp3] at this; cases this
        · omega
    by_cases heff : cls P o.op = .eff
    · have hew : effW P ops S i = true := by simp [effW, ho, heff, hw]
      have hmi := mlow heff
      by_cases hF : F.contains i = true
      · -- a laying
        obtain ⟨o', mk, ho', hfr, hb, hv, _⟩ := h.fillAt i hF
        rw [ho] at ho'; cases ho'
        have hfr2 : Free (hOf P F base ops S L ops.size) (base + F.idxOf i) := by
          rw [hm1]
          exact layFrom_free hF (h.freeAt hF m hmi) _ (fun k _ _ hk e => by subst e; rw [hi] at hk; cases hk)
        have hres : hOf P F base ops S L' ops.size = lays F base S i (hOf P F base ops S L ops.size) := by
          have key : ∀ n, i < n → hOf P F base ops S L' n = lays F base S i (hOf P F base ops S L n) ∨ ∃ p, i < p ∧ p < n ∧ L p = true ∧ effW P ops S p = true ∧ F.contains p = false := by
            intro n
            induction n with
            | zero => intro h; omega
            | succ n ih =>
              intro hn
              by_cases e : i = n
              · subst e
                left
                rw [hOf, hOf, if_pos ⟨hLi, hew⟩, if_pos hF, if_neg (by rw [hi]; simp), hOf_same (fun k hk _ => hLne k (by omega))]
              · rcases ih (by omega) with ih | ⟨p, a1, a2, a3⟩
                · rw [hOf, hOf, hLne n (Ne.symm e)]
                  by_cases c : L n = true ∧ effW P ops S n = true
                  · rw [if_pos c, if_pos c]
                    by_cases hFn : F.contains n = true
                    · left
                      rw [if_pos hFn, if_pos hFn, ih, lays_comm hFn (Ne.symm e)]
                    · right
                      exact ⟨n, by omega, by omega, c.1, c.2, by simpa using hFn⟩
                  · rw [if_neg c, if_neg c]; exact .inl ih
                · exact .inr ⟨p, a1, by omega, a3⟩
          rcases key ops.size hin with e | ⟨p, a1, a2, a3, a4, a5⟩
          · exact e
          · obtain ⟨y, hy, hye, _⟩ := effOf p a4
            have := (high p y a1 hy a3).2 heff hye
            rw [a5] at this; cases this
        unfold aexecIF
        rw [if_pos hF]
        unfold afill
        have hfr3 : (hOf P F base ops S L ops.size)[base + F.idxOf i]? = some .hole := hfr2
        rw [hfr3]
        simp only [aevalF_get, hb, hv, hres]
        rfl
      · -- a loud one
        have hF' : F.contains i = false := by simpa using hF
        have alldone : ∀ q, q < i → effW P ops S q = true → L q = true := by
          intro q hq he
          obtain ⟨x, hx1, hx2, _⟩ := effOf q he
          cases hl : L q with
          | true => rfl
          | false => exact absurd ((low q x hq hx1 hl).2 hx2 heff) hF
        have hS : ∀ d a, a + d = i → m ≤ a → layFrom F base S L (S a).2 a (ops.size - a) = layFrom F base S L (S i).2 i (ops.size - i) := by
          intro d
          induction d with
          | zero => intro a e _; have : a = i := by omega
                    subst this; rfl
          | succ d ih =>
            intro a e hma
            rw [down a hma (by omega) (by
              cases he : effW P ops S a with
              | false => exact .inl rfl
              | true => exact .inr (alldone a (by omega) he))]
            exact ih (a + 1) (by omega) (by omega)
        have hh : hOf P F base ops S L ops.size = layFrom F base S L (S i).2 (i + 1) (ops.size - (i + 1)) := by
          rw [hm1, hS (i - m) m (by omega) (Nat.le_refl _), show ops.size - i = (ops.size - (i + 1)) + 1 by omega, layFrom_succ, if_neg (fun x => hF x.2)]
        have hh' : hOf P F base ops S L' ops.size = layFrom F base S L (S (i + 1)).2 (i + 1) (ops.size - (i + 1)) := by
          have hi1 : hOf P F base ops S L' (i + 1) = (S (i + 1)).2 := by
            rw [hOf, if_pos ⟨hLi, hew⟩, if_neg hF]
          have := hOf_from (base := base) (L := L') h.effF (m := i + 1) (ops.size - (i + 1)) (fun k a b c e => by
            rw [hLne k (by omega)] at c
            obtain ⟨y, hy, hye, _⟩ := effOf k e
            exact (high k y (by omega) hy c).2 heff hye)
          rw [show i + 1 + (ops.size - (i + 1)) = ops.size by omega, hi1] at this
          rw [this]
          exact layFrom_same _ (fun k a _ => hLne k (by omega))
        rw [hh, hh']
        refine layFrom_told (f := fun X => aexecIF P C F base i (S i).1.get X o) (fun k hk hki Y b => aexecIF_lay h.hole (fun hc => by rw [hF'] at hc; cases hc)) hx' _ (fun k hk hkF => h.freeAt hkF i (by omega))
    · have hew : effW P ops S i = false := by simp [effW, ho, heff]
      have hnF : F.contains i = false := by
        cases hc : F.contains i with
        | false => rfl
        | true =>
          have := h.effF i hc
          rw [hew] at this; cases this
      have hsame := h.same i hin hew
      rw [quiet hew]
      -- no call: the operation itself
      have hop : ∀ H2, aexecIF P C F base i (S i).1.get H2 o = aop P (aevalF (S i).1.get) H2 o.op := by
        intro H2
        unfold aexecIF
        rw [if_neg (by rw [hnF]; simp)]
        unfold aexecF
        split
        · rename_i e; rw [e] at heff; exact absurd rfl heff
        · rfl
      rw [hop] at hx' ⊢
      have hbad := h.good i o ho
      cases hcl : cls P o.op with
      | eff => exact absurd hcl heff
      | bad => exact absurd hcl hbad
      | pure => exact aop_pure hcl hx' _
      | read =>
        -- what it reads
        have hu : (aop P (aeval (S i).1) (S i).2 o.op).map Prod.fst = some (val i) := by rw [← aevalF_get, hx']; rfl
        have hfin : ∀ H2, (aop P (aeval (S i).1) H2 o.op).map Prod.fst = some (val i) → aop P (aevalF (S i).1.get) H2 o.op = some (val i, H2) := by
          intro H2 h2
          rw [Option.map_eq_some_iff] at h2
          obtain ⟨⟨u, H3⟩, h3, e⟩ := h2
          cases e
          rw [aevalF_get, h3]
          rw [aop_quiet (P := P) (by rw [hcl]; simp) (by rw [hcl]; simp) h3]
        refine hfin _ ?_
        have cf : ∀ (e : Nat) (y : Oper), ops[e]? = some y → effW P ops S e = true → bef (Region.before ops) i e = false → bef (Region.before ops) e i = false →
            (aop P (aeval (S i).1) (S e).2 o.op).map Prod.fst = some (val i) ∧ (aop P (aeval (S i).1) (S (e + 1)).2 o.op).map Prod.fst = some (val i) := by
          intro e y hy hew2 h1 h2
          obtain ⟨x, hx1, hx2, hx3⟩ := effOf e hew2
          rw [hy] at hx1; cases hx1
          obtain ⟨c1, c2⟩ := h.conf i e o y ho hy hcl hx2 h1 h2 hw hew2
          rw [hu] at c1 c2
          exact ⟨c1.symm, c2.symm⟩
        have nolow : ∀ q, i ≤ q → bef (Region.before ops) q i = false := by
          intro q hq
          cases hb : bef (Region.before ops) q i with
          | false => rfl
          | true => have := bef_lt h.edges i q hb; omega
        have nohigh : ∀ q, q ≤ i → bef (Region.before ops) i q = false := by
          intro q hq
          cases hb : bef (Region.before ops) i q with
          | false => rfl
          | true => have := bef_lt h.edges q i hb; omega
        -- behind layings it tells the same
        have told : ∀ (a d : Nat), (∀ k, a ≤ k → k < a + d → F.contains k = true → Free (S a).2 (base + F.idxOf k)) → (aop P (aeval (S i).1) (S a).2 o.op).map Prod.fst = some (val i) →
            (aop P (aeval (S i).1) (layFrom F base S L (S a).2 a d) o.op).map Prod.fst = some (val i) := by
          intro a d hfr ha
          have ha2 : aop P (aeval (S i).1) (S a).2 o.op = some (val i, (S a).2) := by have := hfin _ ha; rwa [aevalF_get] at this
          have key : ∀ d', d' ≤ d → aop P (aeval (S i).1) (layFrom F base S L (S a).2 a d') o.op = some (val i, layFrom F base S L (S a).2 a d') := by
            intro d'
            induction d' with
            | zero => intro _; exact ha2
            | succ d' ih =>
              intro hd
              have := ih (by omega)
              rw [layFrom]
              by_cases c : L (a + d') = true ∧ F.contains (a + d') = true
              · rw [if_pos c]
                have hfr2 : Free (layFrom F base S L (S a).2 a d') (base + F.idxOf (a + d')) := layFrom_free c.2 (hfr _ (by omega) (by omega) c.2) d' (fun k h1 h2 _ => by omega)
                exact (aop_lay hfr2 _ _ this).2
              · rw [if_neg c]; exact this
          rw [key d (Nat.le_refl _)]; rfl
        have frs : ∀ a, ∀ k, a ≤ k → k < a + (ops.size - a) → F.contains k = true → Free (S a).2 (base + F.idxOf k) := fun a k h1 _ hk => h.freeAt hk a h1
        rw [hm1]
        by_cases hmi : m ≤ i
        · -- down from i
          have A : ∀ d a, a + d = i → m ≤ a → (aop P (aeval (S i).1) (layFrom F base S L (S a).2 a (ops.size - a)) o.op).map Prod.fst = some (val i) := by
            intro d
            induction d with
            | zero =>
              intro a e _
              have : a = i := by omega
              subst this
              exact told a _ (frs a) hu
            | succ d ih =>
              intro a e hma
              by_cases hd : effW P ops S a = false ∨ L a = true
              · rw [down a hma (by omega) hd]; exact ih (a + 1) (by omega) (by omega)
              · have he : effW P ops S a = true := by
                  cases hh : effW P ops S a with
                  | true => rfl
                  | false => exact absurd (.inl hh) hd
                have hl : L a = false := by
                  cases hh : L a with
                  | false => rfl
                  | true => exact absurd (.inr hh) hd
                exact told a _ (frs a) (cf a _ (Array.getElem?_eq_getElem (by omega)) he (nohigh a (by omega)) (hlow a (by omega) hl)).1
          exact A (i - m) m (by omega) (Nat.le_refl _)
        · rcases hm2 with rfl | ⟨p, rfl, hp1, hp2, hp3⟩
          · omega
          · have hpi : i ≤ p := by omega
            exact told (p + 1) _ (frs (p + 1)) (cf p _ (Array.getElem?_eq_getElem (by omega)) hp2 (hhigh p hp1) (nolow p hpi)).2

/-- What holds while a drawn region runs: L, the operations that are done. -/
structure Inv (P : Program) (F : List Nat) (base : Nat) (ops : Array Oper) (S : Nat → Env × Heap) (val : Nat → Value) (N B : Nat) (a0 : Act) (w0 : World) (μ0 : Mu) (listed : Array Bool) (a : Act) (w : World) (μ : Mu) : Prop where
  size : listed.size = ops.size
  shut : ∀ (j : Nat) (o : Oper), ops[j]? = some o → listed.getD j false = true → ∀ e ∈ o.after, Region.binds .any e = true → listed.getD e.on false = true
  env : EnvR μ (fenv ops S val (fun k => listed.getD k false) ops.size) a.tmps
  sim : Sim P μ (hOf P F base ops S (fun k => listed.getD k false) ops.size) w B
  tmps : N ≤ a.tmps.size
  tsize : a.tmps.size = a0.tmps.size
  defers : a.defers = a0.defers
  below : Bel B w0 w
  le : μ0.le μ

theorem aexecI_soundR {ro : Option Nat} {n : Nat} {C : Oracle} {F : List Nat} {base k : Nat} {E : Nat → Value} {o : Oper} {v : Value} {a : Act} {K : Act → World → Prop} {Q : Exit → Act → World → Prop} (hC : OrOk P B C) (hS : Sim P μ H w B) (hE : EnvR μ E a.tmps) (hfill : F.contains k = true → isFill o = true)
    (h : aexecIF P C F base k E H o = some (v, H'))
    (hK : ∀ v' μ' w', μ.le μ' → VR μ' v v' → Sim P μ' H' w' B → Bel B w w' → K (a.put o.dst v') w') : o.wpIn (FR ro) n P a w K Q := by
  unfold aexecIF at h
  split at h
  · rename_i hc
    have hnd : ∀ c, o.op ≠ .defer c := by
      intro c e
      have := hfill hc
      unfold isFill at this
      rw [e] at this
      simp at this
    refine ⟨fun _ _ => trivial, ?_⟩
    rw [Oper.semAt_eq _ _ _ hnd]
    obtain ⟨v', μ', w', hr, hle, hv, hS', hB⟩ := afill_sound (o := o) hS hE.eval h
    rcases hr with hr | ⟨hr, rfl⟩
    · rw [hr]; exact hK v' μ' w' hle hv hS' hB
    · rw [hr]; exact hK undef μ' w' hle hv hS' hB
  · exact aexec_soundR hC hS hE h hK
theorem Sim.holes (h : Sim P μ H w B) (n : Nat) : Sim P μ (H.holes n) w B := by
  have hg : ∀ {i : Nat} {b : Blk}, (H.holes n).get i = some b → H.get i = some b := by
    intro i b hb
    rw [Heap.get_iff] at hb ⊢
    unfold Heap.holes at hb
    by_cases e : i < H.length
    · rwa [List.getElem?_append_left e] at hb
    · rw [List.getElem?_append_right (by omega), List.getElem?_replicate] at hb
      split at hb <;> cases hb
  have ho : ∀ {i : Nat} {b : Other}, (H.holes n).oth i = some b → H.oth i = some b := by
    intro i b hb
    rw [Heap.oth_iff] at hb ⊢
    unfold Heap.holes at hb
    by_cases e : i < H.length
    · rwa [List.getElem?_append_left e] at hb
    · rw [List.getElem?_append_right (by omega), List.getElem?_replicate] at hb
      split at hb <;> cases hb
  refine ⟨h.base, fun i b hb => h.ok i b (hg hb), fun i hi => h.dom i (by simp [Heap.holes] at hi; omega), fun i j b c l m hb hc => h.inj i j b c l m (hg hb) (hg hc), fun i b l hb => h.own i b l (hg hb),
    h.oth.keep μ.le_refl (fun _ _ => ho) (fun _ _ h _ => h), fun i hi => ?_⟩
  by_cases e : i < H.length
  · unfold Heap.holes at hi
    rw [List.getElem?_append_left e] at hi
    exact h.hol i hi
  · exact h.dom i (by omega)

theorem ready_mem {listed : Array Bool} {i : Nat} (hi : i ∈ Region.ready .any ops listed) (hs : listed.size = ops.size) :
    ∃ o, ops[i]? = some o ∧ listed.getD i false = false ∧ ∀ e ∈ o.after, Region.binds .any e = true → listed.getD e.on false = true := by
  unfold Region.ready at hi
  rw [List.mem_filter] at hi
  obtain ⟨h1, h2⟩ := hi
  have hin := List.mem_range.1 h1
  simp only [Bool.and_eq_true, Bool.not_eq_true'] at h2
  refine ⟨ops[i], Array.getElem?_eq_getElem hin, ?_, ?_⟩
  · have := h2.1
    rw [Array.getD_eq_getD_getElem?, Array.getElem?_eq_getElem (by omega)] at this ⊢
    exact this
  · intro e he hb
    have h3 := h2.2
    rw [Array.getElem?_eq_getElem hin] at h3
    simp only [Option.map_some, Option.getD_some] at h3
    have := Array.all_eq_true_iff_forall_mem.1 h3 e he
    simpa [hb] using this

theorem ready_nil {listed : Array Bool} (he : edgesOk ops = true) (hs : listed.size = ops.size) (h : Region.ready .any ops listed = []) : ∀ k, k < ops.size → listed.getD k false = true := by
  intro k
  induction k using Nat.strongRecOn with
  | _ k ih =>
    intro hk
    cases hl : listed.getD k false with
    | true => rfl
    | false =>
      exfalso
      have hm : k ∈ Region.ready .any ops listed := by
        unfold Region.ready
        rw [List.mem_filter]
        refine ⟨List.mem_range.2 hk, ?_⟩
        simp only [Bool.and_eq_true, Bool.not_eq_true']
        constructor
        · rw [Array.getD_eq_getD_getElem?, Array.getElem?_eq_getElem (by omega)] at hl ⊢
          exact hl
        · rw [Array.getElem?_eq_getElem hk]
          simp only [Option.map_some, Option.getD_some]
          rw [Array.all_eq_true_iff_forall_mem]
          intro e hem
          have h1 := List.all_eq_true.1 he k (List.mem_range.2 hk)
          rw [Array.getElem?_eq_getElem hk] at h1
          have h2 := Array.all_eq_true_iff_forall_mem.1 h1 e hem
          cases hb : Region.binds .any e with
          | false => rfl
          | true =>
            have h3 : e.on < k := by simpa [hb] using h2
            rw [ih e.on h3 (by omega)]; rfl
      rw [h] at hm; cases hm

theorem any_soundR {ro : Option Nat} {n : Nat} {N : Nat} {Q : Exit → Act → World → Prop} {a0 : Act} {w0 : World} {μ0 : Mu} (hC : OrOk P B C) (hp : Plan P C F base ops S val) (hd : ∀ o ∈ ops.toList, ∀ d, o.dst = some d → d < N)
    (hQ : ∀ a w μ, μ0.le μ → EnvR μ (S ops.size).1.get a.tmps → a.defers = a0.defers → a.tmps.size = a0.tmps.size → Sim P μ (S ops.size).2 w B → Bel B w0 w → Q .normal a w) :
    ∀ (fuel : Nat) (listed : Array Bool) (a : Act) (w : World) (μ : Mu), cntU (fun k => listed.getD k false) ops.size ≤ fuel → Inv P F base ops S val N B a0 w0 μ0 listed a w μ → wpAnyIn (FR ro) n P .any ops Q fuel listed a w := by
  have fin : ∀ (listed : Array Bool) (a : Act) (w : World) (μ : Mu), (∀ k, k < ops.size → listed.getD k false = true) → Inv P F base ops S val N B a0 w0 μ0 listed a w μ → Q .normal a w := by
    intro listed a w μ hall h
    refine hQ a w μ h.le ?_ h.defers h.tsize ?_ h.below
    · intro t
      have := h.env t
      rw [fenv_eq (P := P) (C := C) (F := F) (base := base) hp.st (Nat.le_refl _) (fun k hk _ => hall k hk)] at this
      exact this
    · have := h.sim
      rw [hOf_eq (fun k hk => hp.same k hk) (fun k _ hF _ => by obtain ⟨_, _, _, _, _, _, e⟩ := hp.fillAt k hF; exact e) (fun k hk _ => hall k hk)] at this
      exact this
  intro fuel
  induction fuel with
  | zero =>
    intro listed a w μ hc h
    have hall := cnt_zero (Nat.le_zero.1 hc)
    refine ⟨?_, fin listed a w μ hall h⟩
    cases hr : Region.ready .any ops listed with
    | nil => rfl
    | cons i r =>
      exfalso
      obtain ⟨o, ho, hl, _⟩ := ready_mem (ops := ops) (i := i) (by rw [hr]; simp) h.size
      rw [hall i (Array.getElem?_eq_some_iff.1 ho).1] at hl; cases hl
  | succ fuel ih =>
    intro listed a w μ hc h
    refine ⟨fun hr => fin listed a w μ (ready_nil hp.edges h.size hr) h, ?_⟩
    intro i hi
    obtain ⟨o, ho, hl, hpre⟩ := ready_mem hi h.size
    have hin : i < ops.size := (Array.getElem?_eq_some_iff.1 ho).1
    have hilt : i < listed.size := by rw [h.size]; exact hin
    -- the set with i
    have hset : ∀ k, (listed.setIfInBounds i true).getD k false = if k = i then true else listed.getD k false := by
      intro k
      rw [Array.getD_eq_getD_getElem?, Array.getElem?_setIfInBounds]
      by_cases e : i = k
      · subst e; simp [hilt]
      · rw [if_neg e, if_neg (Ne.symm e), Array.getD_eq_getD_getElem?]
    have hshut : ∀ (j : Nat) (o' : Oper), ops[j]? = some o' → (listed.setIfInBounds i true).getD j false = true → ∀ e ∈ o'.after, Region.binds .any e = true → (listed.setIfInBounds i true).getD e.on false = true := by
      intro j o' ho' hj e he hb
      rw [hset] at hj ⊢
      by_cases e1 : e.on = i
      · rw [if_pos e1]
      · rw [if_neg e1]
        by_cases e2 : j = i
        · subst e2; rw [ho] at ho'; cases ho'; exact hpre e he hb
        · rw [if_neg e2] at hj; exact h.shut j o' ho' hj e he hb
    have hlow : ∀ k, k < i → listed.getD k false = false → bef (Region.before ops) k i = false := by
      intro k hk hlk
      cases hb : bef (Region.before ops) k i with
      | false => rfl
      | true =>
        have := bef_closed (L := fun k => (listed.setIfInBounds i true).getD k false) hshut i (by show (listed.setIfInBounds i true).getD i false = true; rw [hset, if_pos rfl]) k hb
        simp only [hset, if_neg (show k ≠ i by omega), hlk] at this
        cases this
    have hhigh : ∀ k, listed.getD k false = true → bef (Region.before ops) i k = false := by
      intro k hk
      cases hb : bef (Region.before ops) i k with
      | false => rfl
      | true =>
        have := bef_closed (L := fun k => listed.getD k false) h.shut k hk i hb
        simp only [hl] at this; cases this
    obtain ⟨c1, c2, c3, c4⟩ := hp.comes (L := fun k => listed.getD k false) (L' := fun k => (listed.setIfInBounds i true).getD k false) ho hl (by simp [hset]) (fun k hk => by simp [hset, hk]) hlow hhigh
    have hdst : ∀ t, o.dst = some t → t < a.tmps.size := fun t ht => Nat.lt_of_lt_of_le (hd o (by simpa using Array.mem_of_getElem? ho) t ht) h.tmps
    have hdo : dstOf ops i = o.dst := by simp [dstOf, ho]
    have hcnt : cntU (fun k => (listed.setIfInBounds i true).getD k false) ops.size ≤ fuel := by
      have := cnt_up (L := fun k => listed.getD k false) (L' := fun k => (listed.setIfInBounds i true).getD k false) hin hl (by simp [hset]) (fun k hk => by simp [hset, hk])
      omega
    -- the environment behind it
    have hfe : ∀ t, fenv ops S val (fun k => (listed.setIfInBounds i true).getD k false) ops.size t = if o.dst = some t then val i else fenv ops S val (fun k => listed.getD k false) ops.size t := by
      intro t
      rw [fenv_up (L := fun k => listed.getD k false) (L' := fun k => (listed.setIfInBounds i true).getD k false) hin (by simp [hset]) (fun k hk => by simp [hset, hk]) (fun e k h1 h2 h3 => c2 t (by rw [← hdo]; exact e) k h1 h2 h3), hdo]
    have hst := hp.st i o ho
    have haw : awantF ops o (fenv ops S val (fun k => listed.getD k false) ops.size) = awant ops o (S i).1 := by
      rw [← awantF_get]; exact awantF_congr c1
    have next : ∀ (v' : Value) (μ' : Mu) (w' : World), μ.le μ' → VR μ' (val i) v' → Sim P μ' (hOf P F base ops S (fun k => (listed.setIfInBounds i true).getD k false) ops.size) w' B → Bel B w w' →
        wpAnyIn (FR ro) n P .any ops Q fuel (listed.setIfInBounds i true) (a.put o.dst v') w' := by
      intro v' μ' w' hle hv hS' hB
      refine ih _ _ _ μ' hcnt ⟨by simp [h.size], hshut, ?_, hS', by rw [put_size]; exact h.tmps, by rw [put_size]; exact h.tsize, by rw [put_defers]; exact h.defers, h.below.trans hB, Mu.le_trans h.le hle⟩
      have := EnvR.put (h.env.mono hle) hv o.dst hdst
      intro t
      rw [hfe]; exact this t
    unfold wpOpIn
    rw [ho]
    simp only
    rcases hst.2 with ⟨hw, _⟩ | ⟨hw, hval, _⟩
    · rw [awant_sound h.env (by rw [haw]; exact hw), if_pos rfl]
      have hx := c3 hw
      rw [← aexecIF_congr c1] at hx
      refine aexecI_soundR hC h.sim h.env (fun hc => ?_) hx ?_
      · obtain ⟨o', ho', hf⟩ := hp.lay i hc
        rw [ho] at ho'; cases ho'; exact hf
      · intro v' μ' w' hle hv hS' hB
        exact next v' μ' w' hle hv hS' hB
    · rw [awant_sound h.env (by rw [haw]; exact hw)]
      simp only [Bool.false_eq_true, if_false]
      have hew : effW P ops S i = false := by simp [effW, ho, hw]
      refine ⟨fun _ _ => trivial, ?_⟩
      refine next undef μ w μ.le_refl (by rw [hval]; exact VRs.tuple (c := #[]) (c' := #[]) .nil) ?_ (Bel.refl _ _)
      rw [c4 hew]; exact h.sim

theorem draw_soundR {ro : Option Nat} {n : Nat} {N id : Nat} {E E' : Env} {Q : Exit → Act → World → Prop} {a : Act} (hC : OrOk P B C) (hm : P.follows .mixedOrders = true) (hok : okRegion P N ops true = true) (hrun : runRegion P C ops true E H = some (E', H'))
    (hN : N ≤ a.tmps.size) (hS : Sim P μ H w B) (hE : EnvR μ E.get a.tmps)
    (hQ : ∀ a' w' μ', μ.le μ' → EnvR μ' E'.get a'.tmps → a'.defers = a.defers → a'.tmps.size = a.tmps.size → Sim P μ' H' w' B → Bel B w w' → Q .normal a' w') : (Code.region id ops true).wpIn (FR ro) n P Q a w := by
  simp only [okRegion, Bool.and_eq_true, Bool.not_true, Bool.false_or, List.all_eq_true] at hok
  obtain ⟨hdst, hdraw⟩ := hok
  obtain ⟨F, base, S, val, hp, h0, hn⟩ := Plan.of (P := P) (C := C) hC.hole hdraw hrun
  refine wpIn_region_any hm ?_
  have hlist : ∀ k, (Array.replicate ops.size false).getD k false = false := by
    intro k
    rw [Array.getD_eq_getD_getElem?, Array.getElem?_replicate]
    split <;> rfl
  have hbelow : Bel B w { w with drawn := w.drawn + 1 } := (Bel.refl B w).drew
  refine any_soundR (a0 := a) (w0 := w) (μ0 := μ) hC hp (N := N) ?_ ?_ ops.size _ a _ μ ?_ ⟨by simp, ?_, ?_, ?_, hN, rfl, rfl, hbelow, μ.le_refl⟩
  · intro o ho d hd
    have := hdst o ho
    rw [hd] at this
    simpa using this
  · intro a' w' μ' h1 h2 h3 h4 h5 h6
    rw [hn] at h2 h5
    exact hQ a' w' μ' h1 h2 h3 h4 h5 h6
  · have : ∀ m, cntU (fun k => (Array.replicate ops.size false).getD k false) m ≤ m := by
      intro m
      induction m with
      | zero => exact Nat.le_refl _
      | succ m ih => rw [cntU]; split <;> omega
    exact this _
  · intro j o _ hj
    rw [hlist] at hj; cases hj
  · intro t
    rw [fenv_cut (i := 0) (by omega) (fun k _ _ _ => hlist k)]
    show VR μ ((S 0).1.get t) _
    rw [h0]; exact hE t
  · have e : ∀ n, hOf P F base ops S (fun k => (Array.replicate ops.size false).getD k false) n = (S 0).2 := by
      intro n
      induction n with
      | zero => rfl
      | succ n ih => rw [hOf, if_neg (by rw [hlist]; simp), ih]
    rw [e, h0]
    exact (hS.holes _).heap rfl

end Go.Proofs.YtgakioiplkehgaaA.Am
