/-
Slices of pairs that are only read: whoever owns their block, wherever in it they begin.
-/
import Derived.Test.YtgakioiplkehgaaAmPr
set_option linter.unusedSimpArgs false
set_option linter.unusedVariables false
namespace Go.Proofs.YtgakioiplkehgaaA.Am
variable {H H' : Heap} {o o' : Owner} {q : Int}
def SlR (H : Heap) (o : Owner) (q : Int) (x : Value) (l : PL) : Prop :=
  (x = .slice none 0 0 ∧ l = []) ∨ (∃ i off, x = .slice (some ⟨i, off, none⟩) 0 0 ∧ l = []) ∨
  ∃ i off c b, x = .slice (some ⟨i, off, none⟩) l.length c ∧ H.get i = some b ∧ b.es = 2 ∧ o i = q ∧ l.length ≤ c ∧ off + 2 * l.length ≤ b.cells.length ∧ (b.cells.drop off).take (2 * l.length) = prs l
theorem SlP.r {x : Value} {l : PL} (h : SlP H o q x l) : SlR H o q x l := by
  rcases h with h | ⟨i, cap, rest, ty, h1, h2, h3, h4⟩
  · exact .inl h
  · have := prs_len l
    exact .inr (.inr ⟨i, 0, cap, _, h1, h2, rfl, h4, by omega, by simp; omega, by simp only [List.drop_zero]; exact List.take_left' (by omega)⟩)
theorem SlR.nil : SlR H o q (.slice none 0 0) [] := .inl ⟨rfl, rfl⟩
theorem SlR.mv {x : Value} {l : PL} (h : SlR H o q x l) (k : ∀ i, i < H.length → o i = q → H'.get i = H.get i ∧ o' i = q) : SlR H' o' q x l := by
  rcases h with h | h | ⟨i, off, c, b, h1, h2, h3, h4, h5⟩
  · exact .inl h
  · exact .inr (.inl h)
  · obtain ⟨k1, k2⟩ := k i (get_lt h2) h4
    exact .inr (.inr ⟨i, off, c, b, h1, by rw [k1]; exact h2, h3, k2, h5⟩)
theorem SlR.fr {x : Value} {l : PL} {ps : List Int} (h : SlR H o q x l) (f : Fr H o H' o' ps) (hp : q ∉ ps) : SlR H' o' q x l :=
  h.mv fun i hi ho => ⟨f.same i hi (by rw [ho]; exact hp), by rw [f.own i hi]; exact ho⟩
theorem SlR.relabel {x : Value} {l : PL} {q' : Int} (h : SlR H o q x l) (k : ∀ i, i < H.length → o i = q → o' i = q') : SlR H o' q' x l := by
  rcases h with h | h | ⟨i, off, c, b, h1, h2, h3, h4, h5⟩
  · exact .inl h
  · exact .inr (.inl h)
  · exact .inr (.inr ⟨i, off, c, b, h1, h2, h3, k i (get_lt h2) h4, h5⟩)
theorem SlR.isSlice {x : Value} {l : PL} (h : SlR H o q x l) : ∃ a c, x = .slice a l.length c := by
  rcases h with ⟨rfl, rfl⟩ | ⟨i, off, rfl, rfl⟩ | ⟨i, off, c, b, rfl, _⟩
  · exact ⟨_, _, rfl⟩
  · exact ⟨_, _, rfl⟩
  · exact ⟨_, _, rfl⟩
theorem SlR.len {x : Value} {l : PL} (h : SlR H o q x l) : slen x = some (cv l.length) := by
  obtain ⟨a, c, rfl⟩ := h.isSlice; rfl
theorem SlR.eqV {x : Value} {l : PL} (h : SlR H o q x l) : eqV x x = true := by
  obtain ⟨a, c, rfl⟩ := h.isSlice; simp [Am.eqV, eqV1]
theorem cell_at {cells : List Value} {off j : Nat} {l : PL} (h : (cells.drop off).take (2 * l.length) = prs l) {k : Nat} {v : Value} (hk : k < 2 * l.length) (hv : (prs l)[k]? = some v) : cells[off + k]? = some v := by
  rw [← h, List.getElem?_take, if_pos hk, List.getElem?_drop] at hv
  exact hv
theorem SlR.idx {x : Value} {l : PL} (h : SlR H o q x l) {j : Nat} (hj : j < l.length) :
    ∃ i off b, (∀ H', iadS 2 x (cv j) H' = some (.pointer (some ⟨i, off, none⟩), H')) ∧ H.get i = some b ∧ o i = q ∧ ∀ H' : Heap, H'.get i = some b → ld1 (.pointer (some ⟨i, off, none⟩)) H' = some (cv (l.getD j (0, 0)).1) ∧ ld1 (.pointer (some ⟨i, off + 1, none⟩)) H' = some (cv (l.getD j (0, 0)).2) ∧
      ldn 2 (.pointer (some ⟨i, off, none⟩)) H' = some (.agg #[cv (l.getD j (0, 0)).1, cv (l.getD j (0, 0)).2]) := by
  rcases h with ⟨rfl, rfl⟩ | ⟨i, off, rfl, rfl⟩ | ⟨i, off, c, b, rfl, h2, h3, h4, h5, h6, h7⟩
  · simp at hj
  · simp at hj
  · have c0 := cell_at (j := j) h7 (k := 2 * j) (by omega) (prs_get0 hj)
    have c1 := cell_at (j := j) h7 (k := 2 * j + 1) (by omega) (prs_get1 hj)
    refine ⟨i, off + 2 * j, b, fun H' => ?_, h2, h4, fun H' e => ?_⟩
    · simp only [iadS]; rw [if_pos (by constructor <;> omega)]; simp <;> omega
    · refine ⟨by rw [ld1_pv i _ H' e]; exact c0, by rw [ld1_pv i _ H' e, Nat.add_assoc]; exact c1, ?_⟩
      have hld : ldCells H' i (off + 2 * j) 2 = some [cv (l.getD j (0, 0)).1, cv (l.getD j (0, 0)).2] := by
        simp only [ldCells, e]
        rw [if_pos (by omega)]
        have hd : b.cells.drop (off + 2 * j) = cv (l.getD j (0, 0)).1 :: cv (l.getD j (0, 0)).2 :: b.cells.drop (off + 2 * j + 2) := by
          rw [List.drop_eq_getElem_cons (by omega), List.drop_eq_getElem_cons (by omega)]
          rw [List.getElem?_eq_getElem (by omega)] at c0 c1
          simp only [Option.some.injEq] at c0 c1
          rw [c0]
          have : b.cells[off + 2 * j + 1]'(by omega) = cv (l.getD j (0, 0)).2 := c1
          rw [this]
        rw [hd]; rfl
      simp only [ldn, hld]
theorem SlR.src {x : Value} {l : PL} (h : SlR H o q x l) : Src H x l := by
  rcases h with ⟨rfl, rfl⟩ | ⟨i, off, rfl, rfl⟩ | ⟨i, off, c, b, rfl, h2, h3, h4, h5, h6, h7⟩
  · exact ⟨_, _, rfl, rfl⟩
  · exact ⟨_, _, rfl, rfl⟩
  · refine ⟨_, _, rfl, ?_⟩
    by_cases e : l.length = 0
    · have : l = [] := by simpa using e
      subst this; rfl
    · simp only [srcCells, e, if_false, ldCells, h2]
      rw [if_pos (by omega), Nat.mul_comm, h7]
/-- A part of it. -/
theorem SlR.cut {x : Value} {l : PL} (h : SlR H o q x l) {m n : Nat} (hm : m ≤ n) (hn : n ≤ l.length) {lo hi : Option Value} (hlo : boundOf 0 lo = some (m : Int)) (hhi : boundOf l.length hi = some (n : Int)) :
    ∃ y, scut 2 H x lo hi = some y ∧ SlR H o q y ((l.take n).drop m) := by
  rcases h with ⟨rfl, rfl⟩ | ⟨i, off, rfl, rfl⟩ | ⟨i, off, c, b, rfl, h2, h3, h4, h5, h6, h7⟩
  · have e1 : n = 0 := by simpa using hn
    subst e1
    have e2 : m = 0 := by omega
    subst e2
    refine ⟨.slice none 0 0, ?_, .inl ⟨rfl, rfl⟩⟩
    have hhi' : boundOf 0 hi = some 0 := hhi
    have hlo' : boundOf 0 lo = some 0 := hlo
    simp [scut, hlo', hhi']
  · have e1 : n = 0 := by simpa using hn
    subst e1
    have e2 : m = 0 := by omega
    subst e2
    refine ⟨.slice (some ⟨i, off, none⟩) 0 0, ?_, .inr (.inl ⟨i, off, rfl, rfl⟩)⟩
    have hhi' : boundOf 0 hi = some 0 := hhi
    have hlo' : boundOf 0 lo = some 0 := hlo
    cases hb : H.get i with
    | none => simp [scut, hb, hlo', hhi']
    | some b => simp [scut, hb, hlo', hhi']
  · refine ⟨.slice (some ⟨i, off + m * 2, none⟩) (n - m) (c - m), ?_, .inr (.inr ⟨i, off + m * 2, c - m, b, ?_, h2, h3, h4, ?_, ?_, ?_⟩)⟩
    · simp only [scut, hlo, hhi]
      rw [if_pos (by omega)]
      simp only [h2, h3, if_true, Int.toNat_natCast]
    · simp; omega
    · simp; omega
    · simp; omega
    · have e : ((l.take n).drop m).length = n - m := by simp; omega
      rw [e, ← prs_drop, ← prs_take, ← h7, List.take_take, List.drop_take, List.drop_drop]
      congr 1
      · omega
      · congr 1; omega
theorem SlR.cutTo {x : Value} {l : PL} (h : SlR H o q x l) {n : Nat} (hn : n ≤ l.length) : ∃ y, scut 2 H x none (some (cv n)) = some y ∧ Src H y (l.take n) := by
  obtain ⟨y, h1, h2⟩ := h.cut (m := 0) (n := n) (lo := none) (hi := some (cv n)) (Nat.zero_le _) hn rfl (by simp [boundOf, intOfV])
  exact ⟨y, h1, by simpa using h2.src⟩
theorem SlR.cutFrom {x : Value} {l : PL} (h : SlR H o q x l) {n : Nat} (hn : n ≤ l.length) : ∃ y, scut 2 H x (some (cv n)) none = some y ∧ Src H y (l.drop n) := by
  obtain ⟨y, h1, h2⟩ := h.cut (m := n) (n := l.length) (lo := some (cv n)) (hi := none) hn (Nat.le_refl _) (by simp [boundOf, intOfV]) rfl
  exact ⟨y, h1, by simpa using h2.src⟩
end Go.Proofs.YtgakioiplkehgaaA.Am
