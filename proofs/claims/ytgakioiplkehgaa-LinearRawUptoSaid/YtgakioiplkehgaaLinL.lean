
/- Logs of one's own. Over the abstract machine. -/
import Derived.Test.YtgakioiplkehgaaLinC
namespace Go.Proofs.Ytgakioiplkehgaa.Fun
open Go Go.RowKit Go.Proofs.YtgakioiplkehgaaA.Am
set_option linter.unusedVariables false
set_option linter.unusedSimpArgs false
set_option linter.unnecessarySimpa false
set_option maxRecDepth 10000
/-- Events' cells, one behind the other. -/
def evs : List (EvV × Value) → List Value
  | [] => []
  | x :: l => evCells x.1 x.2 ++ evs l
theorem evs_len : ∀ l : List (EvV × Value), (evs l).length = 13 * l.length
  | [] => rfl
  | x :: l => by simp only [evs, List.length_append, List.length_cons, evs_len l]; simp; omega
theorem evs_app : ∀ a b : List (EvV × Value), evs (a ++ b) = evs a ++ evs b
  | [], b => rfl
  | x :: a, b => by simp only [List.cons_append, evs, evs_app a b, List.append_assoc]
theorem evs_at : ∀ {l : List (EvV × Value)} {j : Nat} {x : EvV × Value}, l[j]? = some x → ∀ rest, ((evs l ++ rest).drop (13 * j)).take 13 = evCells x.1 x.2
  | [], j, x, h, _ => by simp at h
  | y :: l, 0, x, h, rest => by
    have : y = x := by simpa using h
    subst this
    rfl
  | y :: l, j + 1, x, h, rest => by
    have e : (evs (y :: l) ++ rest).drop (13 * (j + 1)) = (evs l ++ rest).drop (13 * j) := by
      rw [show 13 * (j + 1) = 13 + 13 * j by omega, ← List.drop_drop]
      rfl
    rw [e]
    exact evs_at (by simpa using h) rest
theorem evs_set : ∀ {l : List (EvV × Value)} {j : Nat} {x : EvV × Value} (y : EvV × Value) (k : Nat) (v : Value), l[j]? = some x → k < 13 → (evCells x.1 x.2).set k v = evCells y.1 y.2 → (evs l).set (13 * j + k) v = evs (l.set j y)
  | [], j, x, y, k, v, h, _, _ => by simp at h
  | z :: l, 0, x, y, k, v, h, hk, he => by
    have : z = x := by simpa using h
    subst this
    simp only [evs, List.set_cons_zero, Nat.mul_zero, Nat.zero_add]
    rw [List.set_append, if_pos (by simpa using hk), he]
  | z :: l, j + 1, x, y, k, v, h, hk, he => by
    simp only [evs, List.set_cons_succ]
    rw [List.set_append, if_neg (by simp; omega), show 13 * (j + 1) + k - (evCells z.1 z.2).length = 13 * j + k by simp; omega, evs_set y k v (by simpa using h) hk he]
/-- A log, a whole block of one's own. -/
def LogR (H : Heap) (o : Owner) (q q2 : Int) (x : Value) (L : List EvV) : Prop :=
  (x = .slice none 0 0 ∧ L = []) ∨ ∃ i cap rest ty es, x = .slice (some ⟨i, 0, none⟩) L.length cap ∧ H.get i = some ⟨evs es ++ rest, ty, 13, false⟩ ∧ L = es.map (fun z => z.1) ∧ 13 * L.length + rest.length = 13 * cap ∧ o i = q ∧ ∀ z ∈ es, SlR H o q2 z.2 z.1.res.list
section
variable {H H' : Heap} {o o' : Owner} {q q2 : Int} {x : Value} {L : List EvV}
theorem LogR.evs (h : LogR H o q q2 x L) : EvsR H o q q2 x L := by
  rcases h with h | ⟨i, cap, rest, ty, es, rfl, h2, rfl, h4, h5, h6⟩
  · exact .inl h
  · have hl := evs_len es
    simp only [List.length_map] at h4 ⊢
    refine .inr (.inr ⟨i, 0, cap, _, by simp, by simp; omega, h2, rfl, h5, by simp [hl], fun j e he => ?_⟩)
    rw [List.getElem?_map] at he
    cases hx : es[j]? with
    | none => rw [hx] at he; cases he
    | some z =>
      rw [hx] at he
      cases he
      exact ⟨z.2, by rw [Nat.zero_add]; exact evs_at hx rest, h6 z (List.mem_of_getElem? hx)⟩
theorem LogR.fr {ps : List Int} (h : LogR H o q q2 x L) (f : Fr H o H' o' ps) (h1 : q ∉ ps) (h2 : q2 ∉ ps) : LogR H' o' q q2 x L := by
  rcases h with h | ⟨i, cap, rest, ty, es, e1, e2, e3, e4, e5, e6⟩
  · exact .inl h
  · exact .inr ⟨i, cap, rest, ty, es, e1, by rw [f.same i (get_lt e2) (by rw [e5]; exact h1)]; exact e2, e3, e4, by rw [f.own i (get_lt e2)]; exact e5, fun z hz => (e6 z hz).fr f h2⟩
theorem LogR.len (h : LogR H o q q2 x L) : slen x = some (cv L.length) := h.evs.len
theorem evs_one (x : EvV × Value) (a : Option Addr) (m c : Nat) (es : x.2 = .slice a m c) : (evCells x.1 x.2).all oneCell = true := by
  rw [es]; rfl
/-- An event is appended. -/
theorem LogR.app {j : Nat} {e : EvV} {s : Value} {t tE : TypeId} (h : LogR H o q q2 x L) (hj : H.get j = some ⟨evCells e s, t, 13, false⟩) (hs : SlR H o q2 s e.res.list) (hq : q2 ≠ q) (hl : L.length < 4294967295) :
    ∃ x' H' o', appS tE 13 120 x (.slice (some ⟨j, 0, none⟩) 1 1) H = some (x', H') ∧ LogR H' o' q q2 x' (L ++ [e]) ∧ Fr H o H' o' [q] := by
  have hld : ldCells H j 0 13 = some (evCells e s) := by simp [ldCells, hj]
  obtain ⟨sa, sm, esl⟩ := hs.isSlice
  have hone := evs_one (e, s) _ _ _ esl
  rcases h with ⟨rfl, rfl⟩ | ⟨i, cap, rest, ty, es, rfl, h2, rfl, h4, h5, h6⟩
  · have f : Fr H o (H.new ⟨evCells e s, tE, 13, false⟩) (o.up H.length q) [q] := (Fr.refl _ _ _).new _ _
    refine ⟨.slice (some ⟨H.length, 0, none⟩) 1 1, H.new ⟨evCells e s, tE, 13, false⟩, o.up H.length q, ?_, .inr ⟨H.length, 1, [], tE, [(e, s)], rfl, by rw [get_new]; simp [Fun.evs], rfl, rfl, up_self, fun z hz => ?_⟩, f⟩
    · simp [appS, srcCells, hld]
    · have : z = (e, s) := by simpa using hz
      subst this
      exact hs.fr f (by simpa using hq)
  · have hil := get_lt h2
    have hel := evs_len es
    simp only [List.length_map] at h4 hl ⊢
    by_cases hfit : es.length + 1 ≤ cap
    · have hsp : splice (Fun.evs es ++ rest) (13 * es.length) (evCells e s) = Fun.evs (es ++ [(e, s)]) ++ rest.drop 13 := by
        have h9 := splice_app (evCells e s) (Fun.evs es) rest (by simp; omega)
        rw [hel] at h9
        rw [h9, evs_app]
        simp [Fun.evs]
      have hst : stCells H i (0 + es.length * 13) (evCells e s) = some (H.put i ⟨Fun.evs (es ++ [(e, s)]) ++ rest.drop 13, ty, 13, false⟩) := by
        simp only [stCells, h2, hone]
        rw [if_pos (by simp [hel]; omega), show 0 + es.length * 13 = 13 * es.length by omega, hsp]
      have f : Fr H o (H.put i ⟨Fun.evs (es ++ [(e, s)]) ++ rest.drop 13, ty, 13, false⟩) o [q] := (Fr.refl _ _ _).put fun _ => by simp [h5]
      refine ⟨.slice (some ⟨i, 0, none⟩) (es.length + 1) cap, _, o, ?_, .inr ⟨i, cap, rest.drop 13, ty, es ++ [(e, s)], by simp, get_put h2, by simp, by simp; omega, h5, fun z hz => ?_⟩, f⟩
      · simp only [appS, srcCells, Nat.one_mul]
        rw [if_neg (by omega)]
        simp only [hld, Option.map_some]
        rw [if_pos hfit, if_neg (by omega)]
        simp only [h2, if_true, hst, Option.map_some]
      · rcases List.mem_append.1 hz with hz | hz
        · exact (h6 z hz).fr f (by simpa using hq)
        · have : z = (e, s) := by simpa using hz
          subst this
          exact hs.fr f (by simpa using hq)
    · have hold : ldCells H i 0 (es.length * 13) = some (Fun.evs es) := by
        simp only [ldCells, h2]
        rw [if_pos (by simp [hel]; omega), List.drop_zero, List.take_left' (by omega)]
      have f : Fr H o ((H.kill i).new ⟨Fun.evs es ++ evCells e s, tE, 13, false⟩) (o.up H.length q) [q] := by
        have := ((Fr.refl H o [q]).kill (i := i) (fun _ => by simp [h5])).new ⟨Fun.evs es ++ evCells e s, tE, 13, false⟩ q
        rw [kill_len] at this
        exact this
      refine ⟨.slice (some ⟨H.length, 0, none⟩) (es.length + 1) (es.length + 1), _, o.up H.length q, ?_, .inr ⟨H.length, es.length + 1, [], tE, es ++ [(e, s)], by simp, ?_, by simp, by simp, up_self, fun z hz => ?_⟩, f⟩
      · simp only [appS, srcCells, Nat.one_mul]
        rw [if_neg (by omega)]
        simp only [hld, Option.map_some]
        rw [if_neg hfit, if_pos (by simp; omega)]
        simp only [h2]
        rw [if_pos (by simp [hel]; omega)]
        simp only [hold]
      · have := get_new (H := H.kill i) (c := ⟨Fun.evs es ++ evCells e s, tE, 13, false⟩)
        rw [kill_len] at this
        rw [evs_app]
        simpa [Fun.evs] using this
      · rcases List.mem_append.1 hz with hz | hz
        · exact (h6 z hz).fr f (by simpa using hq)
        · have : z = (e, s) := by simpa using hz
          subst this
          exact hs.fr f (by simpa using hq)
end
end Go.Proofs.Ytgakioiplkehgaa.Fun
