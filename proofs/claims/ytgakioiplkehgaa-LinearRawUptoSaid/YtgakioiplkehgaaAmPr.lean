/-
Slices of pairs of whole numbers, whole blocks of one's own.
-/
import Derived.Test.YtgakioiplkehgaaAmSl
set_option linter.unusedSimpArgs false
set_option linter.unusedVariables false
namespace Go.Proofs.YtgakioiplkehgaaA.Am
variable {H H' : Heap} {o o' : Owner} {q : Int}
abbrev PL := List (Int × Int)
def prs : PL → List Value
  | [] => []
  | x :: l => cv x.1 :: cv x.2 :: prs l
theorem prs_len : ∀ l : PL, (prs l).length = 2 * l.length
  | [] => rfl
  | x :: l => by simp only [prs, List.length_cons, prs_len l]; omega
theorem prs_app : ∀ a b : PL, prs (a ++ b) = prs a ++ prs b
  | [], b => rfl
  | x :: a, b => by simp only [List.cons_append, prs, prs_app a b]
theorem prs_one : ∀ l : PL, (prs l).all oneCell = true
  | [] => rfl
  | x :: l => by simp only [prs, List.all_cons, prs_one l, Bool.and_true]; rfl
theorem prs_drop : ∀ (l : PL) (n : Nat), (prs l).drop (2 * n) = prs (l.drop n)
  | l, 0 => rfl
  | [], n + 1 => by simp [prs]
  | x :: l, n + 1 => by
    rw [show 2 * (n + 1) = 2 * n + 1 + 1 by omega]
    simp only [prs, List.drop_succ_cons]; exact prs_drop l n
theorem prs_take : ∀ (l : PL) (n : Nat), (prs l).take (2 * n) = prs (l.take n)
  | l, 0 => rfl
  | [], n + 1 => by simp [prs]
  | x :: l, n + 1 => by
    rw [show 2 * (n + 1) = 2 * n + 1 + 1 by omega]
    simp only [prs, List.take_succ_cons, prs_take l n]
theorem prs_get0 : ∀ {l : PL} {j : Nat}, j < l.length → (prs l)[2 * j]? = some (cv (l.getD j (0, 0)).1)
  | [], j, h => by simp at h
  | x :: l, 0, h => rfl
  | x :: l, j + 1, h => by
    rw [show 2 * (j + 1) = 2 * j + 1 + 1 by omega]
    simp only [prs, List.getElem?_cons_succ, List.getD_cons_succ]
    exact prs_get0 (by simpa using h)
theorem prs_get1 : ∀ {l : PL} {j : Nat}, j < l.length → (prs l)[2 * j + 1]? = some (cv (l.getD j (0, 0)).2)
  | [], j, h => by simp at h
  | x :: l, 0, h => rfl
  | x :: l, j + 1, h => by
    rw [show 2 * (j + 1) + 1 = 2 * j + 1 + 1 + 1 by omega]
    simp only [prs, List.getElem?_cons_succ, List.getD_cons_succ]
    exact prs_get1 (by simpa using h)
/-- Pairs, a whole block of one's own (or none). -/
def SlP (H : Heap) (o : Owner) (q : Int) (x : Value) (l : PL) : Prop :=
  (x = .slice none 0 0 ∧ l = []) ∨ ∃ i cap rest ty, x = .slice (some ⟨i, 0, none⟩) l.length cap ∧ H.get i = some ⟨prs l ++ rest, ty, 2, false⟩ ∧ 2 * l.length + rest.length = 2 * cap ∧ o i = q
theorem SlP.nil : SlP H o q (.slice none 0 0) [] := .inl ⟨rfl, rfl⟩
theorem SlP.fr {x : Value} {l : PL} {ps : List Int} (h : SlP H o q x l) (f : Fr H o H' o' ps) (hp : q ∉ ps) : SlP H' o' q x l := by
  rcases h with h | ⟨i, cap, rest, ty, h1, h2, h3, h4⟩
  · exact .inl h
  · exact .inr ⟨i, cap, rest, ty, h1, by rw [f.same i (get_lt h2) (by rw [h4]; exact hp)]; exact h2, h3, by rw [f.own i (get_lt h2)]; exact h4⟩
theorem SlP.isSlice {x : Value} {l : PL} (h : SlP H o q x l) : ∃ a c, x = .slice a l.length c := by
  rcases h with ⟨rfl, rfl⟩ | ⟨i, cap, rest, ty, rfl, _⟩
  · exact ⟨_, _, rfl⟩
  · exact ⟨_, _, rfl⟩
theorem SlP.len {x : Value} {l : PL} (h : SlP H o q x l) : slen x = some (cv l.length) := by
  obtain ⟨a, c, rfl⟩ := h.isSlice; rfl
theorem SlP.eqV {x : Value} {l : PL} (h : SlP H o q x l) : eqV x x = true := by
  rcases h with ⟨rfl, rfl⟩ | ⟨i, cap, rest, ty, rfl, _⟩
  · rfl
  · simp [Am.eqV, eqV1]
theorem SlP.idx {x : Value} {l : PL} (h : SlP H o q x l) {j : Nat} (hj : j < l.length) :
    ∃ i b, (∀ H', iadS 2 x (cv j) H' = some (.pointer (some ⟨i, 2 * j, none⟩), H')) ∧ H.get i = some b ∧ o i = q ∧ ∀ H' : Heap, H'.get i = some b → ld1 (.pointer (some ⟨i, 2 * j, none⟩)) H' = some (cv (l.getD j (0, 0)).1) ∧ ld1 (.pointer (some ⟨i, 2 * j + 1, none⟩)) H' = some (cv (l.getD j (0, 0)).2) ∧
      ldn 2 (.pointer (some ⟨i, 2 * j, none⟩)) H' = some (.agg #[cv (l.getD j (0, 0)).1, cv (l.getD j (0, 0)).2]) := by
  rcases h with ⟨rfl, rfl⟩ | ⟨i, cap, rest, ty, rfl, h2, h3, h4⟩
  · simp at hj
  · have g0 := prs_get0 hj
    have g1 := prs_get1 hj
    have l0 := prs_len l
    refine ⟨i, _, fun H' => ?_, h2, h4, fun H' e => ?_⟩
    · simp only [iadS]; rw [if_pos (by constructor <;> omega)]; simp <;> omega
    · have c0 : (prs l ++ rest)[2 * j]? = some (cv (l.getD j (0, 0)).1) := by rw [List.getElem?_append_left (by omega)]; exact g0
      have c1 : (prs l ++ rest)[2 * j + 1]? = some (cv (l.getD j (0, 0)).2) := by rw [List.getElem?_append_left (by omega)]; exact g1
      refine ⟨by rw [ld1_pv i _ H' e]; exact c0, by rw [ld1_pv i _ H' e]; exact c1, ?_⟩
      have hld : ldCells H' i (2 * j) 2 = some [cv (l.getD j (0, 0)).1, cv (l.getD j (0, 0)).2] := by
        simp only [ldCells, e]
        rw [if_pos (by rw [List.length_append]; omega)]
        have hd : (prs l ++ rest).drop (2 * j) = cv (l.getD j (0, 0)).1 :: cv (l.getD j (0, 0)).2 :: (prs l ++ rest).drop (2 * j + 2) := by
          rw [List.drop_eq_getElem_cons (by rw [List.length_append]; omega), List.drop_eq_getElem_cons (by rw [List.length_append]; omega)]
          rw [List.getElem?_eq_getElem (by rw [List.length_append]; omega)] at c0 c1
          simp only [Option.some.injEq] at c0 c1
          rw [c0, c1]
        rw [hd]; rfl
      simp only [ldn, hld]
/-- What can be appended: its cells are there. -/
def Src (H : Heap) (x : Value) (l : PL) : Prop := ∃ a c, x = .slice a l.length c ∧ srcCells H 2 l.length x = some (prs l)
theorem SlP.src {x : Value} {l : PL} (h : SlP H o q x l) : Src H x l := by
  rcases h with ⟨rfl, rfl⟩ | ⟨i, cap, rest, ty, rfl, h2, h3, h4⟩
  · exact ⟨_, _, rfl, rfl⟩
  · refine ⟨_, _, rfl, ?_⟩
    by_cases e : l.length = 0
    · have : l = [] := by simpa using e
      subst this; rfl
    · have l0 := prs_len l
      simp only [srcCells, e, if_false, ldCells, h2]
      rw [if_pos (by rw [List.length_append]; omega), List.drop_zero, List.take_left' (by omega)]
/-- Its first ones; what stands behind. -/
theorem SlP.cutTo {x : Value} {l : PL} (h : SlP H o q x l) {n : Nat} (hn : n ≤ l.length) : ∃ y, scut 2 H x none (some (cv n)) = some y ∧ Src H y (l.take n) := by
  rcases h with ⟨rfl, rfl⟩ | ⟨i, cap, rest, ty, rfl, h2, h3, h4⟩
  · have : n = 0 := by simpa using hn
    subst this
    exact ⟨_, rfl, _, _, rfl, rfl⟩
  · have l0 := prs_len l
    refine ⟨.slice (some ⟨i, 0, none⟩) n cap, ?_, ⟨some ⟨i, 0, none⟩, cap, by simp; omega, ?_⟩⟩
    · simp [scut, boundOf, intOfV, h2]; omega
    · have e : (l.take n).length = n := by simp; omega
      rw [e]
      by_cases e0 : n = 0
      · subst e0; rfl
      · simp only [srcCells, e0, if_false, ldCells, h2]
        rw [if_pos (by rw [List.length_append]; omega), List.drop_zero, show n * 2 = 2 * n by omega, List.take_append_of_le_length (by omega), prs_take]
theorem SlP.cutFrom {x : Value} {l : PL} (h : SlP H o q x l) {n : Nat} (hn : n ≤ l.length) : ∃ y, scut 2 H x (some (cv n)) none = some y ∧ Src H y (l.drop n) := by
  rcases h with ⟨rfl, rfl⟩ | ⟨i, cap, rest, ty, rfl, h2, h3, h4⟩
  · have : n = 0 := by simpa using hn
    subst this
    exact ⟨_, rfl, _, _, rfl, rfl⟩
  · have l0 := prs_len l
    refine ⟨.slice (some ⟨i, n * 2, none⟩) (l.length - n) (cap - n), ?_, ⟨some ⟨i, n * 2, none⟩, cap - n, by simp, ?_⟩⟩
    · have : (n : Int) ≤ (l.length : Int) := by omega
      have : l.length ≤ cap := by omega
      simp [scut, boundOf, intOfV, h2, *]
    · have e : (l.drop n).length = l.length - n := by simp
      rw [e]
      by_cases e0 : l.length - n = 0
      · have : l.drop n = [] := List.drop_eq_nil_of_le (by omega)
        simp only [srcCells, e0, if_true, this]; rfl
      · simp only [srcCells, e0, if_false, ldCells, h2]
        rw [if_pos (by rw [List.length_append]; omega), List.drop_append_of_le_length (by omega), show n * 2 = 2 * n by omega, prs_drop, List.take_left' (by rw [prs_len]; simp; omega)]
theorem Src.one {i : Nat} {k v : Int} {t : TypeId} (h : H.get i = some ⟨[cv k, cv v], t, 2, false⟩) : Src H (.slice (some ⟨i, 0, none⟩) 1 1) [(k, v)] :=
  ⟨_, _, rfl, by simp [srcCells, ldCells, h, prs]⟩
/-- Something is appended. -/
theorem SlP.app {x y : Value} {l m : PL} (t : TypeId) (h : SlP H o q x l) (hy : Src H y m) (hb : l.length + m.length ≤ 4294967296) :
    ∃ x' H' o', appS t 2 16 x y H = some (x', H') ∧ SlP H' o' q x' (l ++ m) ∧ Fr H o H' o' [q] ∧ (∀ i, (∀ n k, x ≠ .slice (some ⟨i, 0, none⟩) n k) → i < H.length → H'[i]? = H[i]? ∧ ∀ n k, x' ≠ .slice (some ⟨i, 0, none⟩) n k) := by
  obtain ⟨b, c, rfl, hc⟩ := hy
  by_cases hm : m = []
  · subst hm
    refine ⟨x, H, o, ?_, by simpa using h, .refl _ _ _, fun i hi _ => ⟨rfl, hi⟩⟩
    rcases h with ⟨rfl, rfl⟩ | ⟨i, cap, rest, ty, rfl, h2, h3, h4⟩
    · simp only [appS, hc, Option.map_some]; simp
    · simp only [appS, hc, Option.map_some]
      rw [if_pos (by simp; omega)]; simp
  have hml : m.length ≠ 0 := by simpa using hm
  have lm := prs_len m
  rcases h with ⟨rfl, rfl⟩ | ⟨i, cap, rest, ty, rfl, h2, h3, h4⟩
  · refine ⟨.slice (some ⟨H.length, 0, none⟩) m.length m.length, H.new ⟨prs m, t, 2, false⟩, o.up H.length q, ?_, ?_, (Fr.refl _ _ _).new _ _, fun i _ hi => ⟨slot_new hi, fun n k e => by cases e; omega⟩⟩
    · simp only [appS, hc, Option.map_some]
      rw [if_neg (by omega), if_pos (by simp; simp at hb; omega)]
      simp
    · exact .inr ⟨H.length, m.length, [], t, by simp, by simpa using get_new, by simp, up_self⟩
  · have hql := get_lt h2
    have ll := prs_len l
    by_cases hfit : l.length + m.length ≤ cap
    · refine ⟨.slice (some ⟨i, 0, none⟩) (l ++ m).length cap, H.put i ⟨prs (l ++ m) ++ rest.drop (2 * m.length), ty, 2, false⟩, o, ?_, ?_, (Fr.refl _ _ _).put (fun _ => by simp [h4]), fun j hj _ => ⟨slot_put (by rintro rfl; exact hj _ _ rfl), fun n k e => by cases e; exact hj _ _ rfl⟩⟩
      · simp only [appS, hc, Option.map_some]
        rw [if_pos hfit, if_neg hml]
        simp only [h2, if_true, stCells]
        rw [if_pos (by simp only [prs_one, List.length_append, lm, ll, Bool.not_false, Bool.true_and, Bool.and_true, decide_eq_true_eq]; omega)]
        have e := splice_app (prs m) (prs l) rest (by rw [lm]; omega)
        rw [ll, lm] at e
        simp only [Nat.zero_add, show l.length * 2 = 2 * l.length by omega, e, Option.map_some, prs_app, List.length_append]
      · exact .inr ⟨i, cap, rest.drop (2 * m.length), ty, rfl, get_put h2, by simp; omega, h4⟩
    · refine ⟨.slice (some ⟨H.length, 0, none⟩) (l ++ m).length (l ++ m).length, (H.kill i).new ⟨prs (l ++ m), t, 2, false⟩, o.up H.length q, ?_, ?_, ?_, ?_⟩
      · simp only [appS, hc, Option.map_some]
        rw [if_neg hfit, if_pos (by simp; omega)]
        simp only [h2]
        rw [if_pos (by simp [ll]; omega)]
        have e : ldCells H i 0 (l.length * 2) = some (prs l) := by
          simp only [ldCells, h2]
          rw [if_pos (by rw [List.length_append]; omega), List.drop_zero, List.take_left' (by omega)]
        simp only [e, prs_app, List.length_append]
      · have := get_new (H := H.kill i) (c := ⟨prs (l ++ m), t, 2, false⟩)
        rw [kill_len] at this
        exact .inr ⟨H.length, (l ++ m).length, [], t, rfl, by simpa using this, by simp, up_self⟩
      · have := ((Fr.refl H o [q]).kill (i := i) (fun _ => by simp [h4])).new ⟨prs (l ++ m), t, 2, false⟩ q
        rw [kill_len] at this
        exact this
      · intro j hj hjl
        exact ⟨by rw [slot_new (by rw [kill_len]; exact hjl), slot_kill (by rintro rfl; exact hj _ _ rfl)], fun n k e => by cases e; omega⟩
theorem SlP.base_ne {x : Value} {l : PL} {b : Nat} {cs : List Value} {t : TypeId} {r : Bool} (h : SlP H o q x l) (hb : H.get b = some ⟨cs, t, 1, r⟩) : ∀ n k, x ≠ .slice (some ⟨b, 0, none⟩) n k := by
  rcases h with ⟨rfl, _⟩ | ⟨i, cap, rest, ty, rfl, h2, h3, h4⟩
  · intro n k e; cases e
  · intro n k e
    cases e
    rw [h2] at hb; cases hb
theorem SlP.base_oth {x : Value} {l : PL} {y : Nat} {c : Other} (h : SlP H o q x l) (hy : H.oth y = some c) : ∀ n k, x ≠ .slice (some ⟨y, 0, none⟩) n k := by
  rcases h with ⟨rfl, _⟩ | ⟨i, cap, rest, ty, rfl, h2, h3, h4⟩
  · intro n k e; cases e
  · intro n k e
    cases e
    exact oth_ne hy h2 rfl
theorem SlP.mv {x : Value} {l : PL} (h : SlP H o q x l) (k : ∀ i n c, x = .slice (some ⟨i, 0, none⟩) n c → H'[i]? = H[i]? ∧ o' i = o i) : SlP H' o' q x l := by
  rcases h with h | ⟨i, cap, rest, ty, h1, h2, h3, h4⟩
  · exact .inl h
  · obtain ⟨k1, k2⟩ := k i _ _ h1
    exact .inr ⟨i, cap, rest, ty, h1, by rw [get_slot k1]; exact h2, h3, by rw [k2]; exact h4⟩
theorem SlP.put_ne {x : Value} {l : PL} {b : Nat} {cs : List Value} {t : TypeId} {r : Bool} {c : Blk} (h : SlP H o q x l) (hb : H.get b = some ⟨cs, t, 1, r⟩) : SlP (H.put b c) o q x l :=
  h.mv fun i n k e => ⟨slot_put (by rintro rfl; exact h.base_ne hb _ _ e), rfl⟩
theorem SlP.putO {x : Value} {l : PL} {y : Nat} {c d : Other} (h : SlP H o q x l) (hy : H.oth y = some c) : SlP (H.putO y d) o q x l :=
  h.mv fun i n k e => ⟨slot_putO (by rintro rfl; exact h.base_oth hy _ _ e), rfl⟩
/-- Who is told of as its owner does not matter, if it lies among these. -/
theorem SlP.relabel {x : Value} {l : PL} {q' : Int} (h : SlP H o q x l) (k : ∀ i, i < H.length → o i = q → o' i = q') : SlP H o' q' x l := by
  rcases h with h | ⟨i, cap, rest, ty, h1, h2, h3, h4⟩
  · exact .inl h
  · exact .inr ⟨i, cap, rest, ty, h1, h2, h3, k i (get_lt h2) h4⟩
end Go.Proofs.YtgakioiplkehgaaA.Am
