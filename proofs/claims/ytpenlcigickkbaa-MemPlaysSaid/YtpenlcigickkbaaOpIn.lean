/- The operations that come in: their cells. -/
import Derived.Test.YtpenlcigickkbaaMem
namespace Go.Proofs.Ytpenlcigickkbaa.Fun
open Go.RowKit Go.Proofs.YtpenlcigickkbaaA.Am
set_option linter.unusedVariables false
set_option linter.unusedSimpArgs false
/-- An operation, as it came in. -/
structure OpV where
  kind : Int
  a : Int
  near : Bool
  x : Int
  y : Int
  w : List Int
abbrev opCells (O : OpV) (W : Value) : List Value := [cv O.kind, cv O.a, .bool O.near, cv O.x, cv O.y, W]
def OpOk (O : OpV) : Prop := W64 O.kind ∧ W64 O.a ∧ W64 O.x ∧ W64 O.y ∧ (∀ x ∈ O.w, W64 x) ∧ O.w.length ≤ maxLen
theorem opStruct : structIs Try.prog 42 [3, 3, 4, 2, 2, 28] = true := by kernel_rfl
theorem opIn {H : Heap} {f : Nat} {cs : List Value} (h : In Try.prog H (f + 3) 42 cs) : ∃ O W, cs = opCells O W ∧ OpOk O ∧ IntsR H o0 (-1) W O.w := by
  obtain ⟨fs, he, ht⟩ := structIs_ex opStruct
  replace h := In.struct he h
  generalize fs.toList = l at h ht
  obtain ⟨f0, l, rfl, h0, ht⟩ := List.map_eq_cons_iff.1 ht
  obtain ⟨f1, l, rfl, h1, ht⟩ := List.map_eq_cons_iff.1 ht
  obtain ⟨f2, l, rfl, h2, ht⟩ := List.map_eq_cons_iff.1 ht
  obtain ⟨f3, l, rfl, h3, ht⟩ := List.map_eq_cons_iff.1 ht
  obtain ⟨f4, l, rfl, h4, ht⟩ := List.map_eq_cons_iff.1 ht
  obtain ⟨f5, l, rfl, h5, ht⟩ := List.map_eq_cons_iff.1 ht
  have : l = [] := by simpa using ht
  subst this
  obtain ⟨a0, _, rfl, _, i0, a1, _, rfl, _, i1, a2, _, rfl, _, i2, a3, _, rfl, _, i3, a4, _, rfl, _, i4, a5, _, rfl, _, i5, rfl⟩ := h
  rw [h0] at i0; rw [h1] at i1; rw [h2] at i2; rw [h3] at i3; rw [h4] at i4; rw [h5] at i5
  obtain ⟨k, rfl, hk⟩ := In.int (show Try.prog.underlying 3 = _ from by kernel_rfl) i0
  obtain ⟨a, rfl, ha⟩ := In.int (show Try.prog.underlying 3 = _ from by kernel_rfl) i1
  obtain ⟨b, rfl⟩ := In.bool (show Try.prog.underlying 4 = _ from by kernel_rfl) i2
  obtain ⟨x, rfl, hx⟩ := In.int (show Try.prog.underlying 2 = _ from by kernel_rfl) i3
  obtain ⟨y, rfl, hy⟩ := In.int (show Try.prog.underlying 2 = _ from by kernel_rfl) i4
  obtain ⟨W, w, rfl, hw, hww, hm⟩ := In.ints slI (show Try.prog.underlying 2 = _ from by kernel_rfl) (by kernel_rfl) i5
  exact ⟨⟨k, a, b, x, y, w⟩, W, rfl, ⟨hk, ha, hx, hy, hww, hm⟩, hw⟩
/-- The struct that is boxed. -/
theorem box_op (O : OpV) {H : Heap} {o : Own} {W : Value} (hW : IntsR H o (-1) W O.w) : boxS 42 (.agg (opCells O W).toArray) H = some (pv H.length, H.new ⟨opCells O W, 42, 1, false⟩) := by
  obtain ⟨b, c, rfl⟩ := hW.1.isSlice
  simp [boxS, Value.cells, oneCell, newBlk]
/-- A list of operations, as it came in. -/
def OpsR (H : Heap) (o : Own) (v : Value) (L : List OpV) : Prop :=
  (v = .slice none 0 0 ∧ L = []) ∨ ∃ i b, v = .slice (some ⟨i, 0, none⟩) L.length L.length ∧ (L ≠ [] → H.get i = some b ∧ o i = -1) ∧
    ∀ j O, L[j]? = some O → OpOk O ∧ ∃ W, (b.cells.drop (j * 6)).take 6 = opCells O W ∧ IntsR H o (-1) W O.w
theorem OpsR.fr {H H' : Heap} {o o' : Own} {v : Value} {L : List OpV} {ps : List Int} (h : OpsR H o v L) (f : Fr H o H' o' ps) (hp : (-1 : Int) ∉ ps) : OpsR H' o' v L := by
  rcases h with h | ⟨i, b, rfl, h1, h2⟩
  · exact .inl h
  · refine .inr ⟨i, b, rfl, fun hne => ?_, fun j O hj => ?_⟩
    · obtain ⟨k1, k2⟩ := h1 hne
      exact ⟨by rw [f.same i (get_lt k1) (by rw [k2]; exact hp)]; exact k1, by rw [f.own i (get_lt k1)]; exact k2⟩
    · obtain ⟨k1, W, k2, k3⟩ := h2 j O hj
      exact ⟨k1, W, k2, k3.fr f hp⟩
theorem OpsR.len {H : Heap} {o : Own} {v : Value} {L : List OpV} (h : OpsR H o v L) : slen v = some (cv L.length) := by
  rcases h with ⟨rfl, rfl⟩ | ⟨i, b, rfl, _⟩ <;> rfl
/-- The j-th operation: where it lies, what its cells are. -/
theorem OpsR.idx {H : Heap} {o : Own} {v : Value} {L : List OpV} (h : OpsR H o v L) {j : Nat} (hj : j < L.length) :
    ∃ i b O W, L[j]? = some O ∧ OpOk O ∧ IntsR H o (-1) W O.w ∧ (∀ H', iadS 6 v (cv j) H' = some (.pointer (some ⟨i, j * 6, none⟩), H')) ∧ H.get i = some b ∧ o i = -1 ∧ (∀ t, t < 6 → b.cells[j * 6 + t]? = (opCells O W)[t]?) ∧
      (∀ H', H'.get i = some b → ldn 6 (.pointer (some ⟨i, j * 6, none⟩)) H' = some (.agg (opCells O W).toArray)) := by
  rcases h with ⟨rfl, rfl⟩ | ⟨i, b, rfl, h1, h2⟩
  · simp at hj
  · obtain ⟨k1, k2⟩ := h1 (by rintro rfl; simp at hj)
    have hO : L[j]? = some L[j] := List.getElem?_eq_getElem hj
    obtain ⟨k3, W, k4, k5⟩ := h2 j _ hO
    have hl := congrArg List.length k4
    simp at hl
    refine ⟨i, b, _, W, hO, k3, k5, fun H' => ?_, k1, k2, fun t ht => ?_, fun H' hg => ?_⟩
    · simp only [iadS]; rw [if_pos (by constructor <;> omega)]; simp
    · have := congrArg (·[t]?) k4
      simp only [List.getElem?_take, ht, if_true, List.getElem?_drop] at this
      exact this
    · simp only [ldn, ldCells, hg]
      rw [if_pos (by omega), k4]
theorem opsIn {H : Heap} {f : Nat} {v : Value} (h : In Try.prog H (f + 4) 44 [v]) : ∃ L, OpsR H o0 v L := by
  replace h := In.slice (show Try.prog.underlying 44 = some (.slice 42) from by kernel_rfl) h
  have hc : Try.prog.cellsOf 42 = 6 := by kernel_rfl
  rw [hc] at h
  rcases h with h | ⟨i, es, h, hm, hg, hall⟩
  · cases h; exact ⟨[], .inl ⟨rfl, rfl⟩⟩
  · cases h
    have : ∃ l : List OpV, l.length = es.length ∧ ∀ (j : Nat) O, l[j]? = some O → OpOk O ∧ ∃ W, es[j]? = some (opCells O W) ∧ IntsR H o0 (-1) W O.w := by
      clear hm hg
      induction es with
      | nil => exact ⟨[], rfl, fun j O h => by simp at h⟩
      | cons x es ih =>
        obtain ⟨l, hl, hr⟩ := ih (fun y hy => hall y (List.mem_cons_of_mem _ hy))
        have hx := (hall x (List.mem_cons_self ..)).2
        obtain ⟨O, W, rfl, hO, hW⟩ := opIn (f := f) hx
        refine ⟨O :: l, by simp [hl], fun j O' hj => ?_⟩
        cases j with
        | zero => simp at hj; subst hj; exact ⟨hO, W, rfl, hW⟩
        | succ j => simp at hj; exact hr j O' hj
    obtain ⟨l, hl, hr⟩ := this
    have h6 : ∀ x ∈ es, x.length = 6 := fun x hx => (hall x hx).1
    have hfl : ∀ (es : List (List Value)), (∀ x ∈ es, x.length = 6) → ∀ (j : Nat) c, es[j]? = some c → (es.flatten.drop (j * 6)).take 6 = c := by
      intro es
      induction es with
      | nil => intro _ j c h; simp at h
      | cons x es ih =>
        intro h6 j c hj
        have hx := h6 x (List.mem_cons_self ..)
        cases j with
        | zero => simp at hj; subst hj; simp [← hx]
        | succ j =>
          simp at hj
          rw [List.flatten_cons, List.drop_append, List.drop_of_length_le (by omega), List.nil_append, show (j + 1) * 6 - x.length = j * 6 by omega]
          exact ih (fun y hy => h6 y (List.mem_cons_of_mem _ hy)) j c hj
    refine ⟨l, .inr ⟨i, ⟨es.flatten, 42, 6, true⟩, by rw [hl], fun hne => ⟨hg (by rw [← hl]; exact List.length_pos_iff.2 hne), rfl⟩, fun j O hj => ?_⟩⟩
    obtain ⟨h1, W, h2, h3⟩ := hr j O hj
    exact ⟨h1, W, hfl es h6 j _ h2, h3⟩
end Go.Proofs.Ytpenlcigickkbaa.Fun
