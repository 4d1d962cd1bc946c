/-
Slices of one's own, whatever is in them; what Insert and Delete come to; loops; places in a rising list.
-/
import Derived.Test.YtgakioiplkehgaaAmHp
import Derived.Test.YtgakioiplkehgaaAmIns2
set_option linter.unusedSimpArgs false
set_option linter.unusedVariables false
namespace Go.Proofs.YtgakioiplkehgaaA.Am
variable {H H' : Heap} {o o' : Owner} {p : Int}

theorem iter_go {step : List Value → Heap → AOut} {Q : Nat → List Value → Heap → Prop} {R : AExit × List Value × Heap → Prop}
    (h : ∀ k vs H, Q k vs H → (∃ vs' H' k', k' < k ∧ step vs H = some (.normal, vs', H') ∧ Q k' vs' H') ∨ (∃ r, step vs H = some r ∧ r.1 ≠ .normal ∧ R r)) :
    ∀ k vs H, Q k vs H → ∀ n, k < n → ∃ r, iter n step vs H = some r ∧ r.1 ≠ .normal ∧ R r := by
  intro k
  induction k using Nat.strongRecOn with
  | ind k ih =>
    intro vs H hq n hn
    cases n with
    | zero => omega
    | succ n =>
      rcases h k vs H hq with ⟨vs', H', k', hk, hs, hq'⟩ | ⟨r, hs, hne, hr⟩
      · obtain ⟨r, h1, h2, h3⟩ := ih k' hk vs' H' hq' n (by omega)
        exact ⟨r, by simp only [iter, hs]; exact h1, h2, h3⟩
      · obtain ⟨e, vs', H'⟩ := r
        refine ⟨_, ?_, hne, hr⟩
        cases e with
        | normal => exact absurd rfl hne
        | exit i => simp only [iter, hs]
        | ret => simp only [iter, hs]

/-! slots -/
theorem get_slot {i : Nat} (h : H'[i]? = H[i]?) : H'.get i = H.get i := by unfold Heap.get; rw [h]
theorem oth_slot {i : Nat} (h : H'[i]? = H[i]?) : H'.oth i = H.oth i := by unfold Heap.oth; rw [h]
theorem slot_put {i j : Nat} {c : Blk} (h : j ≠ i) : (H.put i c)[j]? = H[j]? := slot_set h
theorem slot_kill {i j : Nat} (h : j ≠ i) : (H.kill i)[j]? = H[j]? := slot_set h
theorem slot_new {j : Nat} {c : Blk} (h : j < H.length) : (H.new c)[j]? = H[j]? := by unfold Heap.new; rw [List.getElem?_append_left h]
theorem slot_newO {j : Nat} {c : Other} (h : j < H.length) : (H.newO c)[j]? = H[j]? := by unfold Heap.newO; rw [List.getElem?_append_left h]
theorem slot_holes {j n : Nat} (h : j < H.length) : (H.holes n)[j]? = H[j]? := by unfold Heap.holes; rw [List.getElem?_append_left h]
theorem hole_self : (H.holes 1)[H.length]? = some .hole := by
  unfold Heap.holes
  rw [List.getElem?_append_right (Nat.le_refl _)]; simp
theorem holes_len (n : Nat) : (H.holes n).length = H.length + n := by unfold Heap.holes; simp
theorem newO_len (c : Other) : (H.newO c).length = H.length + 1 := by simp [Heap.newO]
theorem get_set_self {i : Nat} {b : Blk} (h : i < H.length) : Heap.get (H.set i (.blk b)) i = some b := by
  unfold Heap.get; rw [List.getElem?_set_self h]

/-! slices of one's own -/
/-- Some values, in a whole block of one's own (or in none); behind them lies no address. -/
def Sl (H : Heap) (o : Owner) (p : Int) (s : Value) (cs : List Value) : Option Nat → Prop
  | none => s = .slice none 0 0 ∧ cs = []
  | some q => ∃ cap rest ty, s = .slice (some ⟨q, 0, none⟩) cs.length cap ∧ H.get q = some ⟨cs ++ rest, ty, 1, false⟩ ∧ cs.length + rest.length = cap ∧ rest.all plainV = true ∧ o q = p
theorem Sl.mv {s : Value} {cs : List Value} {b : Option Nat} (h : Sl H o p s cs b) (k : ∀ q, b = some q → H'[q]? = H[q]? ∧ o' q = o q) : Sl H' o' p s cs b := by
  cases b with
  | none => exact h
  | some q =>
    obtain ⟨cap, rest, ty, h1, h2, h3, h5, h6⟩ := h
    obtain ⟨k1, k2⟩ := k q rfl
    exact ⟨cap, rest, ty, h1, by rw [get_slot k1]; exact h2, h3, h5, by rw [k2]; exact h6⟩
theorem Sl.lt {s : Value} {cs : List Value} {q : Nat} (h : Sl H o p s cs (some q)) : q < H.length ∧ o q = p := by
  obtain ⟨cap, rest, ty, h1, h2, h3, h5, h6⟩ := h
  exact ⟨get_lt h2, h6⟩
theorem Sl.lt' {s : Value} {cs : List Value} {b : Option Nat} {q : Nat} (h : Sl H o p s cs b) (e : b = some q) : q < H.length ∧ o q = p := by subst e; exact h.lt
theorem Sl.fr {ps : List Int} {s : Value} {cs : List Value} {b : Option Nat} (h : Sl H o p s cs b) (f : Fr H o H' o' ps) (hp : p ∉ ps) : Sl H' o' p s cs b :=
  h.mv fun q e => by
    subst e
    obtain ⟨h1, h2⟩ := h.lt
    exact ⟨f.slot q h1 (by rw [h2]; exact hp), f.own q h1⟩
theorem Sl.len {s : Value} {cs : List Value} {b : Option Nat} (h : Sl H o p s cs b) : slen s = some (cv cs.length) := by
  cases b with
  | none => obtain ⟨rfl, rfl⟩ := h; rfl
  | some q => obtain ⟨cap, rest, ty, rfl, _⟩ := h; rfl
theorem Sl.eqV {s : Value} {cs : List Value} {b : Option Nat} (h : Sl H o p s cs b) : eqV s s = true := by
  cases b with
  | none => obtain ⟨rfl, rfl⟩ := h; rfl
  | some q => obtain ⟨cap, rest, ty, rfl, _⟩ := h; simp [Am.eqV, eqV1]
theorem Sl.isSlice {s : Value} {cs : List Value} {b : Option Nat} (h : Sl H o p s cs b) : ∃ a n c, s = .slice a n c := by
  cases b with
  | none => obtain ⟨rfl, rfl⟩ := h; exact ⟨_, _, _, rfl⟩
  | some q => obtain ⟨cap, rest, ty, rfl, _⟩ := h; exact ⟨_, _, _, rfl⟩
/-- An element of it. -/
theorem Sl.idx {s : Value} {cs : List Value} {b : Option Nat} (h : Sl H o p s cs b) {j : Nat} {v : Value} (hj : cs[j]? = some v) :
    ∃ q, b = some q ∧ (∀ H', iadS 1 s (cv j) H' = some (.pointer (some ⟨q, j, none⟩), H')) ∧ ∀ H' : Heap, H'[q]? = H[q]? → ld1 (.pointer (some ⟨q, j, none⟩)) H' = some v := by
  have hjl : j < cs.length := (List.getElem?_eq_some_iff.1 hj).1
  cases b with
  | none => obtain ⟨rfl, rfl⟩ := h; simp at hjl
  | some q =>
    obtain ⟨cap, rest, ty, rfl, h2, _⟩ := h
    refine ⟨q, rfl, fun H' => ?_, fun H' e => ?_⟩
    · simp only [iadS]; rw [if_pos (by constructor <;> omega)]; simp
    · rw [ld1_pv q j H' (by rw [get_slot e]; exact h2)]
      show (cs ++ rest)[j]? = _
      rw [List.getElem?_append_left hjl]; exact hj
/-- One of its values turns. -/
theorem Sl.put {s : Value} {cs : List Value} {b : Option Nat} (h : Sl H o p s cs b) {j : Nat} (hj : j < cs.length) (x : Value) (hx : x.cells = #[x]) (hk : known x = true) (h1 : oneCell x = true) :
    ∃ q c, b = some q ∧ (∀ H', iadS 1 s (cv j) H' = some (.pointer (some ⟨q, j, none⟩), H')) ∧ stS 1 (.pointer (some ⟨q, j, none⟩)) x H = some (undef, H.put q c) ∧ Sl (H.put q c) o p s (cs.set j x) b := by
  cases b with
  | none => obtain ⟨rfl, rfl⟩ := h; simp at hj
  | some q =>
    obtain ⟨cap, rest, ty, rfl, h2, h3, h5, h6⟩ := h
    refine ⟨q, ⟨cs.set j x ++ rest, ty, 1, false⟩, rfl, fun H' => ?_, ?_, cap, rest, ty, by simp, get_put h2, by simpa using h3, h5, h6⟩
    · simp only [iadS]; rw [if_pos (by constructor <;> omega)]; simp
    · simp only [stS, stCells, h2, hx, hk]
      rw [if_pos ⟨rfl, trivial⟩]
      have : (!false && decide (j + #[x].toList.length ≤ (cs ++ rest).length) && #[x].toList.all oneCell) = true := by
        simp [h1]; omega
      simp only [this, if_true, Option.map_some, splice, List.set_append, hj]
/-- No base any more. -/
def killB : Option Nat → Heap → Heap
  | none, H => H
  | some q, H => H.kill q
theorem killB_len (b : Option Nat) : (killB b H).length = H.length := by
  cases b with
  | none => rfl
  | some q => exact kill_len H q
theorem slot_killB {b : Option Nat} {j : Nat} (h : b ≠ some j) : (killB b H)[j]? = H[j]? := by
  cases b with
  | none => rfl
  | some q => exact slot_kill (by rintro rfl; exact h rfl)
/-- Insert. -/
theorem Sl.ins {s : Value} {cs : List Value} {b : Option Nat} {i j : Nat} {x : Value} {t tE : TypeId} (h : Sl H o p s cs b) (hj : H.get j = some ⟨[x], t, 1, false⟩) (hne : b ≠ some j) (hi : i ≤ cs.length) (hl : cs.length < 4294967296) :
    insG tE [s, cv i, .slice (some ⟨j, 0, none⟩) 1 1] H = some (.slice (some ⟨H.length, 0, none⟩) (cs.length + 1) (cs.length + 1), (killB b H).new ⟨cs.take i ++ x :: cs.drop i, tE, 1, false⟩) := by
  have hld : ldCells H j 0 1 = some [x] := by simp [ldCells, hj]
  cases b with
  | none =>
    obtain ⟨rfl, rfl⟩ := h
    have : i = 0 := by simpa using hi
    subst this
    simp [insG, hj, hld, killB]
  | some q =>
    obtain ⟨cap, rest, ty, rfl, h2, h3, h5, h6⟩ := h
    have hqj : q ≠ j := fun e => hne (by rw [e])
    have c1 : True ∧ True ∧ (0 : Int) ≤ (i : Int) ∧ (i : Int) ≤ (cs.length : Int) ∧ cs.length < 4294967296 := ⟨trivial, trivial, by omega, by omega, hl⟩
    have c2 : True ∧ True ∧ q ≠ j ∧ (cs ++ rest).length = cap ∧ cs.length ≤ cap ∧ ((cs ++ rest).drop cs.length).all plainV = true := by
      refine ⟨trivial, trivial, hqj, by simpa using h3, by omega, ?_⟩
      rw [List.drop_left]; exact h5
    simp only [insG, hj, hld, h2]
    rw [if_pos c1, if_pos c2, List.take_left]
    simp only [Int.toNat_natCast, killB]
theorem Sl.made (H : Heap) (o : Owner) (p : Int) (t : TypeId) (cs : List Value) : Sl (H.new ⟨cs, t, 1, false⟩) (o.up H.length p) p (.slice (some ⟨H.length, 0, none⟩) cs.length cs.length) cs (some H.length) :=
  ⟨cs.length, [], t, rfl, by simpa using get_new, by simp, rfl, up_self⟩

/-! places -/
section
variable {α : Type} (lt : α → α → Bool)
/-- How many stand ahead of k. -/
def plc (l : List α) (k : α) : Nat := (l.takeWhile fun x => lt x k).length
theorem plc_le (l : List α) (k : α) : plc lt l k ≤ l.length := (List.takeWhile_sublist _).length_le
theorem plc_is {l : List α} {k : α} {i : Nat} (h1 : i ≤ l.length) (h2 : ∀ j (h : j < l.length), j < i → lt l[j] k = true) (h3 : ∀ h : i < l.length, lt l[i] k = false) : plc lt l k = i := by
  induction l generalizing i with
  | nil => simp at h1; subst h1; rfl
  | cons a l ih =>
    unfold plc
    cases i with
    | zero =>
      have := h3 (by simp)
      simp only [List.getElem_cons_zero] at this
      simp [List.takeWhile_cons, this]
    | succ i =>
      have h0 := h2 0 (by simp) (by omega)
      simp only [List.getElem_cons_zero] at h0
      simp only [List.takeWhile_cons, h0, if_true, List.length_cons]
      have := ih (i := i) (by simpa using h1) (fun j h hj => h2 (j + 1) (by simpa using h) (by omega)) (fun h => h3 (by simpa using h))
      unfold plc at this
      omega
end
/-! a loop's slot -/
theorem oth_newO {c : Other} : (H.newO c).oth H.length = some c := by
  unfold Heap.oth Heap.newO
  rw [List.getElem?_append_right (Nat.le_refl _)]; simp
theorem oth_lt {y : Nat} {c : Other} (h : H.oth y = some c) : y < H.length := by
  unfold Heap.oth at h
  cases hx : H[y]? with
  | none => rw [hx] at h; cases h
  | some s => exact (List.getElem?_eq_some_iff.1 hx).1
theorem oth_putO {y : Nat} {c d : Other} (h : H.oth y = some c) : (H.putO y d).oth y = some d := by
  unfold Heap.oth Heap.putO
  rw [List.getElem?_set_self (oth_lt h)]
theorem putO_back {y : Nat} {c d : Other} (h : H.oth y = some c) : (H.putO y d).putO y c = H := by
  have hl := oth_lt h
  unfold Heap.putO
  rw [List.set_set]
  apply List.ext_getElem?
  intro k
  by_cases e : k = y
  · subst e
    rw [List.getElem?_set_self hl]
    unfold Heap.oth at h
    cases hx : H[k]? with
    | none => rw [hx] at h; cases h
    | some s => rw [hx] at h; cases s <;> simp_all
  · rw [List.getElem?_set_ne (Ne.symm e)]
theorem slot_putO {y j : Nat} {c : Other} (h : j ≠ y) : (H.putO y c)[j]? = H[j]? := slot_set h
theorem putO_len (y : Nat) (c : Other) : (H.putO y c).length = H.length := by simp [Heap.putO]
theorem putO_putO {y : Nat} {c d : Other} : (H.putO y c).putO y d = H.putO y d := by simp [Heap.putO]
/-- Blocks in a round: those that were there when the loop began. -/
theorem get_round {y b : Nat} {c d : Other} {x : Blk} (h : H.get b = some x) (hy : y = H.length) : ((H.newO c).putO y d).get b = some x := by
  have hl := get_lt h
  rw [get_slot (H' := (H.newO c).putO y d) (H := H) (by rw [slot_putO (by omega), slot_newO hl])]; exact h
/-- One value is laid. -/
theorem st_1 (p o : Nat) (x : Value) (H : Heap) {b : Blk} (h : H.get p = some b) (hr : b.ro = false) (ho : o < b.cells.length) (hx : x.cells = #[x]) (hk : known x = true) (h1 : oneCell x = true) :
    stS 1 (.pointer (some ⟨p, o, none⟩)) x H = some (undef, H.put p { b with cells := b.cells.set o x }) := by
  simp only [stS, stCells, h, hx, hk]
  rw [if_pos ⟨rfl, trivial⟩]
  have : (!b.ro && decide (o + #[x].toList.length ≤ b.cells.length) && #[x].toList.all oneCell) = true := by
    rw [hr]; simp [h1]; omega
  rw [this]; rfl
/-- Two boxes, laid one behind the other. -/
theorem two_boxes (H : Heap) (x y x' y' : Value) (t u : TypeId) (hx : x'.cells = #[x'] ∧ known x' = true ∧ oneCell x' = true) (hy : y'.cells = #[y'] ∧ known y' = true ∧ oneCell y' = true) :
    ∃ A : Heap, stS 1 (.pointer (some ⟨H.length, 0, none⟩)) x' ((H.new ⟨[x], t, 1, false⟩).new ⟨[y], u, 1, false⟩) = some (undef, ((H.new ⟨[x], t, 1, false⟩).new ⟨[y], u, 1, false⟩).put H.length ⟨[x'], t, 1, false⟩) ∧
      stS 1 (.pointer (some ⟨H.length + 1, 0, none⟩)) y' (((H.new ⟨[x], t, 1, false⟩).new ⟨[y], u, 1, false⟩).put H.length ⟨[x'], t, 1, false⟩) = some (undef, A) ∧
      A.get H.length = some ⟨[x'], t, 1, false⟩ ∧ A.get (H.length + 1) = some ⟨[y'], u, 1, false⟩ ∧ A.length = H.length + 2 ∧ ∀ j, j < H.length → A[j]? = H[j]? := by
  have g0 : ((H.new ⟨[x], t, 1, false⟩).new ⟨[y], u, 1, false⟩).get H.length = some ⟨[x], t, 1, false⟩ := by rw [get_new_lt (by rw [new_len]; omega)]; exact get_new
  have g1 : (((H.new ⟨[x], t, 1, false⟩).new ⟨[y], u, 1, false⟩).put H.length ⟨[x'], t, 1, false⟩).get (H.length + 1) = some ⟨[y], u, 1, false⟩ := by
    rw [get_put_ne (by omega)]
    have := get_new (H := H.new ⟨[x], t, 1, false⟩) (c := ⟨[y], u, 1, false⟩)
    rw [new_len] at this; exact this
  refine ⟨_, st_1 _ _ _ _ g0 rfl (by simp) hx.1 hx.2.1 hx.2.2, st_1 _ _ _ _ g1 rfl (by simp) hy.1 hy.2.1 hy.2.2, ?_, get_put g1, by simp only [put_len, new_len], fun j hj => ?_⟩
  · rw [get_put_ne (by omega)]; exact get_put g0
  · rw [slot_put (by omega), slot_put (by omega), slot_new (by rw [new_len]; omega), slot_new hj]
theorem get_putO {y b : Nat} {c d : Other} {x : Blk} (hy : H.oth y = some c) (h : H.get b = some x) : (H.putO y d).get b = some x := by
  have : b ≠ y := by
    rintro rfl
    unfold Heap.get at h; unfold Heap.oth at hy
    cases hx : H[b]? with
    | none => rw [hx] at h; cases h
    | some s => rw [hx] at h hy; cases s <;> simp_all
  rw [get_slot (slot_putO this)]; exact h
theorem oth_ne {y b : Nat} {c : Other} {x : Blk} (hy : H.oth y = some c) (h : H.get b = some x) : y ≠ b := by
  rintro rfl
  unfold Heap.get at h; unfold Heap.oth at hy
  cases hx : H[y]? with
  | none => rw [hx] at h; cases h
  | some s => rw [hx] at h hy; cases s <;> simp_all
theorem oth_put' {y b : Nat} {c : Other} {x : Blk} (hy : H.oth y = some c) (h : y ≠ b) : (H.put b x).oth y = some c := by
  rw [oth_slot (slot_put h)]; exact hy
end Go.Proofs.YtgakioiplkehgaaA.Am
