
/- What the document's check keeps of the operations that have not come back: slices of them. Over the abstract machine. -/
import Derived.Test.YtgakioiplkehgaaFun0
import Derived.Test.YtgakioiplkehgaaFun1
import Derived.Test.YtgakioiplkehgaaFun2
import Derived.Test.YtgakioiplkehgaaFun3
import Derived.Test.YtgakioiplkehgaaLinC
namespace Go.Proofs.Ytgakioiplkehgaa.Fun
open Go Go.RowKit Go.Proofs.YtgakioiplkehgaaA.Am
set_option linter.unusedVariables false
set_option linter.unusedSimpArgs false
set_option linter.unnecessarySimpa false
set_option maxRecDepth 10000
section
variable {H H' : Heap} {o o' : Owner} {q : Int}
structure SV where
  a : Option Addr
  n : Nat
  c : Nat
abbrev SV.v (s : SV) : Value := .slice s.a s.n s.c
/-- An operation that has not come back: its thread, its own number, what it is, the map ahead of it, the maps since then. -/
structure OC where
  thread : Int
  uid : Nat
  call : CallV
  ah : SV
  ws : SV
abbrev ocells (z : OC) : List Value := [cv z.thread, cv z.call.no, cv z.call.op.kind, cv z.call.op.key, cv z.call.op.value, .bool z.call.took.isSome, z.ah.v, z.ws.v]
def ocs : List OC → List Value
  | [] => []
  | x :: l => ocells x ++ ocs l
theorem ocs_len : ∀ l : List OC, (ocs l).length = 8 * l.length
  | [] => rfl
  | x :: l => by simp only [ocs, List.length_append, List.length_cons, ocs_len l]; simp; omega
theorem ocs_app : ∀ a b : List OC, ocs (a ++ b) = ocs a ++ ocs b
  | [], b => rfl
  | x :: a, b => by simp only [List.cons_append, ocs, ocs_app a b, List.append_assoc]
theorem ocs_one : ∀ l : List OC, (ocs l).all oneCell = true
  | [] => rfl
  | x :: l => by simp only [ocs, List.all_append, ocs_one l, Bool.and_true]; rfl
theorem ocs_drop : ∀ (l : List OC) (n : Nat), (ocs l).drop (8 * n) = ocs (l.drop n)
  | l, 0 => rfl
  | [], n + 1 => by simp [ocs]
  | x :: l, n + 1 => by
    rw [show 8 * (n + 1) = 8 + 8 * n by omega, ← List.drop_drop]
    show ((ocs l)).drop (8 * n) = _
    rw [ocs_drop l n]; rfl
theorem ocs_take : ∀ (l : List OC) (n : Nat), (ocs l).take (8 * n) = ocs (l.take n)
  | l, 0 => rfl
  | [], n + 1 => by simp [ocs]
  | x :: l, n + 1 => by
    have e : ocs (x :: l) = ocells x ++ ocs l := rfl
    rw [e, show 8 * (n + 1) = (ocells x).length + 8 * n by simp; omega, List.take_length_add_append, ocs_take l n]; rfl
theorem ocs_at {l : List OC} {j : Nat} {x : OC} (h : l[j]? = some x) (rest : List Value) : ((ocs l ++ rest).drop (8 * j)).take 8 = ocells x := by
  have hj := (List.getElem?_eq_some_iff.1 h).1
  rw [List.drop_append_of_le_length (by rw [ocs_len]; omega), ocs_drop]
  have e : l.drop j = x :: l.drop (j + 1) := by
    rw [List.drop_eq_getElem_cons hj]
    rw [List.getElem?_eq_getElem hj] at h
    cases h; rfl
  rw [e]; rfl
theorem ocs_set : ∀ {l : List OC} {j : Nat} {x : OC} (y : OC) (k : Nat) (v : Value), l[j]? = some x → k < 8 → (ocells x).set k v = ocells y → (ocs l).set (8 * j + k) v = ocs (l.set j y)
  | [], j, x, y, k, v, h, _, _ => by simp at h
  | z :: l, 0, x, y, k, v, h, hk, he => by
    have : z = x := by simpa using h
    subst this
    simp only [ocs, List.set_cons_zero, Nat.mul_zero, Nat.zero_add]
    rw [List.set_append, if_pos (by simpa using hk), he]
  | z :: l, j + 1, x, y, k, v, h, hk, he => by
    simp only [ocs, List.set_cons_succ]
    rw [List.set_append, if_neg (by simp; omega), show 8 * (j + 1) + k - (ocells z).length = 8 * j + k by simp; omega, ocs_set y k v (by simpa using h) hk he]
/-- Operations, a whole block of one's own (or none). -/
def OpL (H : Heap) (o : Owner) (q : Int) (x : Value) (l : List OC) : Prop :=
  (x = .slice none 0 0 ∧ l = []) ∨ ∃ i cap rest ty, x = .slice (some ⟨i, 0, none⟩) l.length cap ∧ H.get i = some ⟨ocs l ++ rest, ty, 8, false⟩ ∧ 8 * l.length + rest.length = 8 * cap ∧ o i = q
theorem OpL.nil : OpL H o q (.slice none 0 0) [] := .inl ⟨rfl, rfl⟩
theorem OpL.fr {x : Value} {l : List OC} {ps : List Int} (h : OpL H o q x l) (f : Fr H o H' o' ps) (hp : q ∉ ps) : OpL H' o' q x l := by
  rcases h with h | ⟨i, cap, rest, ty, h1, h2, h3, h4⟩
  · exact .inl h
  · exact .inr ⟨i, cap, rest, ty, h1, by rw [f.same i (get_lt h2) (by rw [h4]; exact hp)]; exact h2, h3, by rw [f.own i (get_lt h2)]; exact h4⟩
theorem OpL.isSlice {x : Value} {l : List OC} (h : OpL H o q x l) : ∃ a c, x = .slice a l.length c := by
  rcases h with ⟨rfl, rfl⟩ | ⟨i, cap, rest, ty, rfl, _⟩
  · exact ⟨_, _, rfl⟩
  · exact ⟨_, _, rfl⟩
theorem OpL.len {x : Value} {l : List OC} (h : OpL H o q x l) : slen x = some (cv l.length) := by
  obtain ⟨a, c, rfl⟩ := h.isSlice; rfl
theorem OpL.eqV {x : Value} {l : List OC} (h : OpL H o q x l) : eqV x x = true := by
  rcases h with ⟨rfl, rfl⟩ | ⟨i, cap, rest, ty, rfl, _⟩
  · rfl
  · simp [Go.Proofs.YtgakioiplkehgaaA.Am.eqV, eqV1]
/-- What can be appended: its cells are there. -/
def Src8 (H : Heap) (x : Value) (l : List OC) : Prop := ∃ a c, x = .slice a l.length c ∧ srcCells H 8 l.length x = some (ocs l)
theorem OpL.src {x : Value} {l : List OC} (h : OpL H o q x l) : Src8 H x l := by
  rcases h with ⟨rfl, rfl⟩ | ⟨i, cap, rest, ty, rfl, h2, h3, h4⟩
  · exact ⟨_, _, rfl, rfl⟩
  · refine ⟨_, _, rfl, ?_⟩
    by_cases e : l.length = 0
    · have : l = [] := by simpa using e
      subst this; rfl
    · have l0 := ocs_len l
      simp only [srcCells, e, if_false, ldCells, h2]
      rw [if_pos (by rw [List.length_append]; omega), List.drop_zero, List.take_left' (by omega)]
/-- Its first ones; what stands behind. -/
theorem OpL.cutTo {x : Value} {l : List OC} (h : OpL H o q x l) {n : Nat} (hn : n ≤ l.length) : ∃ y, scut 8 H x none (some (cv n)) = some y ∧ Src8 H y (l.take n) := by
  rcases h with ⟨rfl, rfl⟩ | ⟨i, cap, rest, ty, rfl, h2, h3, h4⟩
  · have : n = 0 := by simpa using hn
    subst this
    exact ⟨_, rfl, _, _, rfl, rfl⟩
  · have l0 := ocs_len l
    refine ⟨.slice (some ⟨i, 0, none⟩) n cap, ?_, ⟨some ⟨i, 0, none⟩, cap, by simp; omega, ?_⟩⟩
    · simp [scut, boundOf, intOfV, h2]; omega
    · have e : (l.take n).length = n := by simp; omega
      rw [e]
      by_cases e0 : n = 0
      · subst e0; rfl
      · simp only [srcCells, e0, if_false, ldCells, h2]
        rw [if_pos (by rw [List.length_append]; omega), List.drop_zero, show n * 8 = 8 * n by omega, List.take_append_of_le_length (by omega), ocs_take]
theorem OpL.cutFrom {x : Value} {l : List OC} (h : OpL H o q x l) {n : Nat} (hn : n ≤ l.length) : ∃ y, scut 8 H x (some (cv n)) none = some y ∧ Src8 H y (l.drop n) := by
  rcases h with ⟨rfl, rfl⟩ | ⟨i, cap, rest, ty, rfl, h2, h3, h4⟩
  · have : n = 0 := by simpa using hn
    subst this
    exact ⟨_, rfl, _, _, rfl, rfl⟩
  · have l0 := ocs_len l
    refine ⟨.slice (some ⟨i, n * 8, none⟩) (l.length - n) (cap - n), ?_, ⟨some ⟨i, n * 8, none⟩, cap - n, by simp, ?_⟩⟩
    · have : (n : Int) ≤ (l.length : Int) := by omega
      have : l.length ≤ cap := by omega
      simp [scut, boundOf, intOfV, h2, *]
    · have e : (l.drop n).length = l.length - n := by simp
      rw [e]
      by_cases e0 : l.length - n = 0
      · have : l.drop n = [] := List.drop_eq_nil_of_le (by omega)
        simp only [srcCells, e0, if_true, this]; rfl
      · simp only [srcCells, e0, if_false, ldCells, h2]
        rw [if_pos (by rw [List.length_append]; omega), List.drop_append_of_le_length (by omega), show n * 8 = 8 * n by omega, ocs_drop, List.take_left' (by rw [ocs_len]; simp; omega)]
/-- Something is appended. -/
theorem OpL.app {x y : Value} {l m : List OC} (t : TypeId) (h : OpL H o q x l) (hy : Src8 H y m) (hb : l.length + m.length ≤ 4294967296) :
    ∃ x' H' o', appS t 8 96 x y H = some (x', H') ∧ OpL H' o' q x' (l ++ m) ∧ Fr H o H' o' [q] ∧ (∀ i, (∀ n k, x ≠ .slice (some ⟨i, 0, none⟩) n k) → i < H.length → H'[i]? = H[i]? ∧ ∀ n k, x' ≠ .slice (some ⟨i, 0, none⟩) n k) := by
  obtain ⟨b, c, rfl, hc⟩ := hy
  by_cases hm : m = []
  · subst hm
    refine ⟨x, H, o, ?_, by simpa using h, .refl _ _ _, fun i hi _ => ⟨rfl, hi⟩⟩
    rcases h with ⟨rfl, rfl⟩ | ⟨i, cap, rest, ty, rfl, h2, h3, h4⟩
    · simp only [appS, hc, Option.map_some]; simp
    · simp only [appS, hc, Option.map_some]
      rw [if_pos (by simp; omega)]; simp
  have hml : m.length ≠ 0 := by simpa using hm
  have lm := ocs_len m
  rcases h with ⟨rfl, rfl⟩ | ⟨i, cap, rest, ty, rfl, h2, h3, h4⟩
  · refine ⟨.slice (some ⟨H.length, 0, none⟩) m.length m.length, H.new ⟨ocs m, t, 8, false⟩, o.up H.length q, ?_, ?_, (Fr.refl _ _ _).new _ _, fun i _ hi => ⟨slot_new hi, fun n k e => by cases e; omega⟩⟩
    · simp only [appS, hc, Option.map_some]
      rw [if_neg (by omega), if_pos (by simp; simp at hb; omega)]
      simp
    · exact .inr ⟨H.length, m.length, [], t, by simp, by simpa using get_new, by simp, up_self⟩
  · have hql := get_lt h2
    have ll := ocs_len l
    by_cases hfit : l.length + m.length ≤ cap
    · refine ⟨.slice (some ⟨i, 0, none⟩) (l ++ m).length cap, H.put i ⟨ocs (l ++ m) ++ rest.drop (8 * m.length), ty, 8, false⟩, o, ?_, ?_, (Fr.refl _ _ _).put (fun _ => by simp [h4]), fun j hj _ => ⟨slot_put (by rintro rfl; exact hj _ _ rfl), fun n k e => by cases e; exact hj _ _ rfl⟩⟩
      · simp only [appS, hc, Option.map_some]
        rw [if_pos hfit, if_neg hml]
        simp only [h2, if_true, stCells]
        rw [if_pos (by simp only [ocs_one, List.length_append, lm, ll, Bool.not_false, Bool.true_and, Bool.and_true, decide_eq_true_eq]; omega)]
        have e := splice_app (ocs m) (ocs l) rest (by rw [lm]; omega)
        rw [ll, lm] at e
        simp only [Nat.zero_add, show l.length * 8 = 8 * l.length by omega, e, Option.map_some, ocs_app, List.length_append]
      · exact .inr ⟨i, cap, rest.drop (8 * m.length), ty, rfl, get_put h2, by simp; omega, h4⟩
    · refine ⟨.slice (some ⟨H.length, 0, none⟩) (l ++ m).length (l ++ m).length, (H.kill i).new ⟨ocs (l ++ m), t, 8, false⟩, o.up H.length q, ?_, ?_, ?_, ?_⟩
      · simp only [appS, hc, Option.map_some]
        rw [if_neg hfit, if_pos (by simp; omega)]
        simp only [h2]
        rw [if_pos (by simp [ll]; omega)]
        have e : ldCells H i 0 (l.length * 8) = some (ocs l) := by
          simp only [ldCells, h2]
          rw [if_pos (by rw [List.length_append]; omega), List.drop_zero, List.take_left' (by omega)]
        simp only [e, ocs_app, List.length_append]
      · have := get_new (H := H.kill i) (c := ⟨ocs (l ++ m), t, 8, false⟩)
        rw [kill_len] at this
        exact .inr ⟨H.length, (l ++ m).length, [], t, rfl, by simpa using this, by simp, up_self⟩
      · have := ((Fr.refl H o [q]).kill (i := i) (fun _ => by simp [h4])).new ⟨ocs (l ++ m), t, 8, false⟩ q
        rw [kill_len] at this
        exact this
      · intro j hj hjl
        exact ⟨by rw [slot_new (by rw [kill_len]; exact hjl), slot_kill (by rintro rfl; exact hj _ _ rfl)], fun n k e => by cases e; omega⟩
/-- One of them: where it lies, what is in it. -/
theorem OpL.idx {x : Value} {l : List OC} (h : OpL H o q x l) {j : Nat} {z : OC} (hj : l[j]? = some z) :
    ∃ i b, (∀ H', iadS 8 x (cv j) H' = some (.pointer (some ⟨i, 8 * j, none⟩), H')) ∧ H.get i = some b ∧ o i = q ∧ (∀ k, k < 8 → b.cells[8 * j + k]? = (ocells z)[k]?) ∧ b.ro = false ∧ 8 * j + 8 ≤ b.cells.length ∧
      ∀ (k : Nat) (v : Value) (z' : OC), k < 8 → (ocells z).set k v = ocells z' → OpL (H.put i { b with cells := b.cells.set (8 * j + k) v }) o q x (l.set j z') := by
  have hjl : j < l.length := (List.getElem?_eq_some_iff.1 hj).1
  rcases h with ⟨rfl, rfl⟩ | ⟨i, cap, rest, ty, rfl, h2, h3, h4⟩
  · simp at hjl
  · have hl := ocs_len l
    have hat := ocs_at hj rest
    refine ⟨i, _, fun H' => ?_, h2, h4, fun k hk => ?_, rfl, by simp; omega, fun k v z' hk he => .inr ⟨i, cap, rest, ty, by simp, ?_, by simpa using h3, h4⟩⟩
    · simp only [iadS]; rw [if_pos (by constructor <;> omega)]; simp <;> omega
    · rw [← hat, List.getElem?_take, if_pos hk, List.getElem?_drop]
    · have : (ocs l ++ rest).set (8 * j + k) v = ocs (l.set j z') ++ rest := by
        rw [List.set_append, if_pos (by rw [hl]; omega), ocs_set z' k v hj hk he]
      simp only [this]
      exact get_put h2
end
end Go.Proofs.Ytgakioiplkehgaa.Fun
namespace Go.Proofs.Ytgakioiplkehgaa.Fun
open Go Go.RowKit Go.Proofs.YtgakioiplkehgaaA.Am
set_option linter.unusedVariables false
set_option linter.unusedSimpArgs false
set_option linter.unnecessarySimpa false
set_option maxRecDepth 10000
/-- The maps that there were, as slices. -/
def WasR (H : Heap) (o : Owner) (u : Nat) (ws : Value) (ms : List PL) : Prop :=
  ∃ wl b, Sl H o (-1000 - u) ws wl b ∧ wl.length = ms.length ∧ ∀ (i : Nat) (v : Value) (m : PL), wl[i]? = some v → ms[i]? = some m → SlR H o (-44) v m
theorem WasR.fr {H H' : Heap} {o o' : Owner} {u : Nat} {ws : Value} {ms : List PL} {ps : List Int} (h : WasR H o u ws ms) (f : Fr H o H' o' ps) (h1 : (-1000 - (u : Int)) ∉ ps) (h2 : (-44 : Int) ∉ ps) : WasR H' o' u ws ms := by
  obtain ⟨wl, b, g1, g2, g3⟩ := h
  exact ⟨wl, b, g1.fr f h1, g2, fun i v m e1 e2 => (g3 i v m e1 e2).fr f h2⟩
/-- An operation under way, as the document has it. -/
structure OpR (H : Heap) (o : Owner) (ms : List PL) (z : OC) : Prop where
  was : WasR H o z.uid z.ws.v (ms.drop z.call.frm)
  took : ∀ a, z.call.took = some a → SlR H o (-44) z.ah.v a ∧ Asc (keysOf a) ∧ a.length ≤ 4194303
  kind : 1 ≤ z.call.op.kind ∧ z.call.op.kind ≤ 10
theorem OpR.fr {H H' : Heap} {o o' : Owner} {ms : List PL} {z : OC} {ps : List Int} (h : OpR H o ms z) (f : Fr H o H' o' ps) (h1 : (-1000 - (z.uid : Int)) ∉ ps) (h2 : (-44 : Int) ∉ ps) : OpR H' o' ms z :=
  ⟨h.was.fr f h1 h2, fun a ha => ⟨(h.took a ha).1.fr f h2, (h.took a ha).2⟩, h.kind⟩
def oidx (l : List OC) (t : Int) : Option Nat := l.findIdx? fun z => z.thread == t
section
variable {G : Oracle} {H : Heap} {o : Owner} {q : Int} {n : Nat}
theorem find_runs {x : Value} {l : List OC} (h : OpL H o q x l) (hl : l.length ≤ 65536) (t : Int) (hn : 65536 < n) : run G (n + 1) 38 [x, cv t] H = some (cv (match oidx l t with | some j => (j : Int) | none => -1), H) := by
  rw [F38_eq]
  have hxl := h.len
  obtain ⟨r, hit, hne, r1, hr⟩ := iter_go (step := F38_b0 (run G n) n)
    (Q := fun m vs H' => H' = H ∧ ∃ (i : Nat) (d9 d18 : Value), i ≤ l.length ∧ m = l.length - i ∧ vs = [x, cv t, cv 0, cv i, d9, d18] ∧ ∀ j (hj : j < l.length), j < i → l[j].thread ≠ t)
    (R := fun r => r.2.2 = H ∧ ((r.1 = .exit 0 ∧ (∃ d5 d9 d18, r.2.1 = [x, cv t, cv 0, d5, d9, d18]) ∧ oidx l t = none) ∨ (r.1 = .ret ∧ ∃ (j : Nat) (d5 d9 d18 : Value), r.2.1 = [x, cv t, cv j, d5, d9, d18] ∧ oidx l t = some j)))
    (by
      rintro m vs H' ⟨rfl, i, d9, d18, hi, rfl, rfl, hlo⟩
      by_cases hlt : i < l.length
      · have h1 : (i : Int) < l.length := by omega
        obtain ⟨ib, b, hix, hb, _, hc, _⟩ := h.idx (List.getElem?_eq_getElem hlt)
        have hld : ld1 (.pointer (some ⟨ib, 8 * i, none⟩)) H' = some (cv l[i].thread) := by rw [ld1_pv _ _ _ hb]; exact hc 0 (by omega)
        have hw : IntKind.i64.wrap ((i : Int) + 1) = ((i + 1 : Nat) : Int) := by rw [w64 (by omega)]; omega
        by_cases he : l[i].thread = t
        · refine .inr ⟨(.ret, [x, cv t, cv i, cv i, .bool true, .bool true], H'), ?_, by simp, rfl, .inr ⟨rfl, i, _, _, _, rfl, ?_⟩⟩
          · simp -implicitDefEqProofs [F38_b0_v, F38_b0v, hxl, lss_int, h1, hix, fad_pv, hld, eql_int, he, fin]
          · unfold oidx
            rw [List.findIdx?_eq_some_iff_getElem]
            exact ⟨hlt, by simp [he], fun j hj => by simpa using hlo j (by omega) hj⟩
        · refine .inl ⟨_, _, l.length - (i + 1), by omega, ?_, rfl, i + 1, .bool true, .bool false, by omega, rfl, rfl, fun j hj hji => ?_⟩
          · simp -implicitDefEqProofs [-Int.natCast_add, F38_b0_v, F38_b0v, hxl, lss_int, h1, hix, fad_pv, hld, eql_int, he, add_int, hw, fin]
          · rcases Nat.lt_or_ge j i with g | g
            · exact hlo j hj g
            · have : j = i := by omega
              subst this; exact he
      · have h1 : ¬ (i : Int) < l.length := by omega
        refine .inr ⟨(.exit 0, [x, cv t, cv 0, cv i, .bool false, d18], H'), ?_, by simp, rfl, .inl ⟨rfl, ⟨_, _, _, rfl⟩, ?_⟩⟩
        · simp -implicitDefEqProofs [F38_b0_v, F38_b0v, hxl, lss_int, h1, fin]
        · unfold oidx
          rw [List.findIdx?_eq_none_iff]
          intro z hz
          obtain ⟨j, hj, rfl⟩ := List.getElem_of_mem hz
          simpa using hlo j hj (by omega))
    (l.length - 0) [x, cv t, cv 0, cv (0 : Nat), undef, undef] H ⟨rfl, 0, _, _, Nat.zero_le _, rfl, rfl, fun j _ h => by omega⟩ n (by omega)
  obtain ⟨e, vs, H'⟩ := r
  simp only at r1 hr
  subst r1
  simp only [Int.natCast_zero] at hit
  rcases hr with ⟨rfl, ⟨d5, d9, d18, rfl⟩, h3⟩ | ⟨rfl, j, d5, d9, d18, rfl, h3⟩
  · rw [h3]
    simp -implicitDefEqProofs [F38, hit, F38_j1_v, F38_j1v]
  · rw [h3]
    simp -implicitDefEqProofs [F38, hit, kBlk, kSeq, up, resK, resL, tupK]
    rfl
theorem change_runs (op : OpV) (H : Heap) : ∃ H', run G (n + 1) 54 [opA op] H = some (.bool (decide (1 ≤ op.kind) && decide (op.kind ≤ 3)), H') ∧ Ext H H' := by
  rw [F54_eq]
  have b1 := boxO op H
  obtain ⟨H1, e1⟩ : ∃ z, z = H.new ⟨[cv op.kind, cv op.key, cv op.value], 23, 1, false⟩ := ⟨_, rfl⟩
  rw [← e1] at b1
  have x1 : Ext H H1 := by rw [e1]; exact (Ext.refl H).new _
  have g1 : H1.get H.length = some ⟨[cv op.kind, cv op.key, cv op.value], 23, 1, false⟩ := by rw [e1]; exact get_new
  have P0 : ld1 (pv H.length) H1 = some (cv op.kind) := ld1_pv H.length 0 H1 g1
  refine ⟨H1, ?_, x1⟩
  by_cases k1 : op.kind ≥ 1
  · have k1' : (1 : Int) ≤ op.kind := k1
    simp -implicitDefEqProofs [-ge_iff_le, F54, b1, fad_pv, P0, geq_int, leq_int, k1, k1', pick_bool]
  · have k1' : ¬ (1 : Int) ≤ op.kind := k1
    simp -implicitDefEqProofs [-ge_iff_le, F54, b1, fad_pv, P0, geq_int, leq_int, k1, k1', pick_bool]
theorem boxOC (z : OC) (H : Heap) : boxS 78 (.agg (ocells z).toArray) H = some (pv H.length, H.new ⟨ocells z, 78, 1, false⟩) := by
  simp [boxS, Value.cells, oneCell, newBlk]
/-- One map of those that there were. -/
theorem told_one {z : OC} {r : ResV} {s v : Value} {ml : PL} {H2 H' : Heap} {o2 : Owner} {b1 b2 iq io : Nat} {t1 t2 : TypeId} {i wn : Nat} {v0 v1 v8 v23 v32 v36 v41 v6 v70 v73 : Value}
    (ex : Ext H2 H') (g1 : H2.get b1 = some ⟨resCells r s, t1, 1, false⟩) (g2 : H2.get b2 = some ⟨ocells z, t2, 1, false⟩) (hs : SlR H2 o2 q s r.list) (hr : r.list.length ≤ 4194304) (hi : i < wn) (hwn : wn ≤ 65536) (hws : slen z.ws.v = some (cv wn))
    (hix : ∀ Hx, iadS 1 z.ws.v (cv i) Hx = some (.pointer (some ⟨iq, io, none⟩), Hx)) (hiq : iq < H2.length) (hld : ∀ Hx, Ext H2 Hx → ld1 (.pointer (some ⟨iq, io, none⟩)) Hx = some v) (hv : SlR H2 o2 (-44) v ml) (hA : Asc (keysOf ml)) (hM : ml.length ≤ 4194303) (k2 : ¬ z.call.op.kind = 2) (hn : 4194304 < n) :
    ∃ H'' w41 w6 w70 w73, Ext H2 H'' ∧ ((!trn ml z.call.op && resEq r (ans ml z.call.op)) = false ∧ F40_b0 (run G (n + 5)) (n + 5) [v0, v1, .bool false, pv b2, v8, pv b1, v23, v32, v36, cv i, v41, v6, v70, v73] H' = some (.normal, [v0, v1, .bool false, pv b2, v8, pv b1, v23, v32, v36, cv (i + 1 : Nat), w41, w6, w70, w73], H'') ∨
      (!trn ml z.call.op && resEq r (ans ml z.call.op)) = true ∧ F40_b0 (run G (n + 5)) (n + 5) [v0, v1, .bool false, pv b2, v8, pv b1, v23, v32, v36, cv i, v41, v6, v70, v73] H' = some (.ret, [v0, v1, .bool true, pv b2, v8, pv b1, v23, v32, v36, cv i, w41, w6, w70, w73], H'')) := by
  obtain ⟨a, m', es⟩ := hs.isSlice
  have h1 : (i : Int) < wn := by omega
  obtain ⟨Hh, eh⟩ : ∃ t, t = H'.holes 1 := ⟨_, rfl⟩
  have xh : Ext H' Hh := by rw [eh]; exact ⟨fun j hj => slot_holes hj, by rw [holes_len]; omega⟩
  have lh : Hh.length = H'.length + 1 := by rw [eh, holes_len]
  have hole : Hh[H'.length]? = some .hole := by rw [eh]; exact hole_self
  have exh := ex.trans xh
  obtain ⟨y, H8, r8, ⟨sa, ey, ha⟩, x8⟩ := rAnswer_runs (G := G) (n := n + 1) (hv.fr (exh.fr o2 0) (by simp)) hM z.call.op (by omega)
  have ea : ansL ml z.call.op = ans ml z.call.op := by unfold ansL; rw [if_pos hA]
  rw [ea] at ey ha
  subst ey
  obtain ⟨aa, ma, esa⟩ := ha.isSlice
  obtain ⟨H9, e9⟩ : ∃ t : Heap, t = H8.set H'.length (.blk ⟨[cv 0, .bool false, cv 0, cv 0, cv 0, nils], 29, 1, false⟩) := ⟨_, rfl⟩
  have hole8 : H8[H'.length]? = some .hole := by rw [x8.old _ (by omega)]; exact hole
  have lay : layV (H'.length + 0) (some (fun i => Value.pointer (some ⟨i, 0, none⟩), (⟨[cv 0, .bool false, cv 0, cv 0, cv 0, nils], 29, 1, false⟩ : Blk))) H8 = some (pv H'.length, H9) := by rw [e9]; exact layV_eq hole8
  rw [Nat.add_zero] at lay
  have g9 : H9.get H'.length = some ⟨[cv 0, .bool false, cv 0, cv 0, cv 0, nils], 29, 1, false⟩ := by rw [e9]; exact get_set_self (by have := x8.size; omega)
  have st := st_6 H'.length (ans ml z.call.op) esa H9 g9 rfl
  obtain ⟨H10, e10⟩ : ∃ t, t = H9.put H'.length ⟨resCells (ans ml z.call.op) sa, 29, 1, false⟩ := ⟨_, rfl⟩
  rw [← e10] at st
  have g10 : H10.get H'.length = some ⟨resCells (ans ml z.call.op) sa, 29, 1, false⟩ := by rw [e10]; exact get_put g9
  have slots : ∀ j, j ≠ H'.length → H10[j]? = H8[j]? := fun j hj => by rw [e10, slot_put hj, e9, slot_set hj]
  have x10 : Ext H' H10 := ⟨fun j hj => by rw [slots j (by omega), x8.old j (by omega), xh.old j hj], by rw [e10, put_len, e9, List.length_set]; have := x8.size; omega⟩
  have ex10 := ex.trans x10
  have sa10 : SlR H10 (nw Hh.length) 1 sa (ans ml z.call.op).list := ha.mv fun j hj ho => ⟨get_slot (slots j (by have := nw_iff.1 ho; omega)), ho⟩
  have K1 : ld1 (.pointer (some ⟨H'.length, 1, none⟩)) H10 = some (.bool (ans ml z.call.op).found) := ld1_pv H'.length 1 H10 g10
  have Z7 : ∀ Hx, Ext H2 Hx → ld1 (.pointer (some ⟨b2, 7, none⟩)) Hx = some z.ws.v := fun Hx hx => ld1_pv _ 7 _ (hx.get g2)
  have Z2 : ∀ Hx, Ext H2 Hx → ld1 (.pointer (some ⟨b2, 2, none⟩)) Hx = some (cv z.call.op.kind) := fun Hx hx => ld1_pv _ 2 _ (hx.get g2)
  have ZO : ∀ Hx, Ext H2 Hx → ldn 3 (.pointer (some ⟨b2, 2, none⟩)) Hx = some (opA z.call.op) := fun Hx hx => by simp [ldn, ldCells, hx.get g2]
  have ex8 := exh.trans x8
  have ex9 : ∀ j : Nat, j < H2.length → H9[j]? = H2[j]? := fun j hj => by
    have := ex.size
    rw [e9, slot_set (by omega), ex8.old j hj]
  have ex9' : Ext H2 H9 := ⟨ex9, by rw [e9, List.length_set]; exact ex8.size⟩
  have evO := eqV_opA z.call.op
  have evW : eqV z.ws.v z.ws.v = true := by simp [Go.Proofs.YtgakioiplkehgaaA.Am.eqV, eqV1]
  have evV : eqV v v = true := hv.eqV
  have hw : IntKind.i64.wrap ((i : Int) + 1) = ((i + 1 : Nat) : Int) := by rw [w64 (by omega)]; omega
  have R0 := ld_6 _ _ _ (ex10.get g1)
  have Ra := ld_6 _ _ _ g10
  have hfound : (z.call.op.kind = 1 ∨ z.call.op.kind = 3) → (ans ml z.call.op).found = mhas ml z.call.op.key := fun hk => by
    unfold ans
    rw [if_pos (by omega)]
    unfold resF
    cases hm : mhas ml z.call.op.key <;> simp [res0]
  obtain ⟨H11, r11, x11⟩ := Results_runs (G := G) (n := n + 3) (x := resA r s) ⟨s, rfl, hs.fr (ex10.fr o2 0) (by simp)⟩ (y := resA (ans ml z.call.op) sa) (rb := ans ml z.call.op) ⟨sa, rfl, sa10⟩ (by omega) (by omega)
  by_cases ht : trn ml z.call.op = true
  · have hcond : (z.call.op.kind = 1 ∧ (ans ml z.call.op).found = false) ∨ (¬ z.call.op.kind = 1 ∧ z.call.op.kind = 3 ∧ (ans ml z.call.op).found = true) := by
      unfold trn at ht
      by_cases c1 : z.call.op.kind = 1
      · rw [if_pos c1] at ht
        exact .inl ⟨c1, by rw [hfound (.inl c1)]; simpa using ht⟩
      · rw [if_neg c1] at ht
        by_cases c3 : z.call.op.kind = 3
        · rw [if_pos c3] at ht
          exact .inr ⟨c1, c3, by rw [hfound (.inr c3)]; exact ht⟩
        · rw [if_neg c3] at ht
          simp at ht; exact absurd ht k2
    refine ⟨H10, .bool true, pv H'.length, .bool true, v73, ex10, .inl ⟨by rw [ht]; rfl, ?_⟩⟩
    rcases hcond with ⟨c1, hf⟩ | ⟨c1, c3, hf⟩
    · rw [hf] at K1
      simp -implicitDefEqProofs [-Int.natCast_add, F40_b0_v, F40_b0v, fad_pv, Z7 H' ex, hws, lss_int, h1, holesK, ← eh, Z7 Hh exh, Z7 H8 ex8, Z7 H9 ex9', hix, hld Hh exh, hld H8 ex8, hld H9 ex9', ZO Hh exh, ZO H8 ex8, ZO H9 ex9', r8, lay, st, evO, evW, evV, Z2 H10 ex10, eql_int, c1, K1, not_bool, pick_bool, F40_j1_v, F40_j1v, add_int, hw, fin]
    · rw [hf] at K1
      simp -implicitDefEqProofs [-Int.natCast_add, F40_b0_v, F40_b0v, fad_pv, Z7 H' ex, hws, lss_int, h1, holesK, ← eh, Z7 Hh exh, Z7 H8 ex8, Z7 H9 ex9', hix, hld Hh exh, hld H8 ex8, hld H9 ex9', ZO Hh exh, ZO H8 ex8, ZO H9 ex9', r8, lay, st, evO, evW, evV, Z2 H10 ex10, eql_int, c1, c3, K1, not_bool, pick_bool, F40_j1_v, F40_j1v, add_int, hw, fin]
  · have ht' : trn ml z.call.op = false := by simpa using ht
    have hcond : (z.call.op.kind = 1 ∧ (ans ml z.call.op).found = true) ∨ (¬ z.call.op.kind = 1 ∧ z.call.op.kind = 3 ∧ (ans ml z.call.op).found = false) ∨ (¬ z.call.op.kind = 1 ∧ ¬ z.call.op.kind = 3) := by
      unfold trn at ht'
      by_cases c1 : z.call.op.kind = 1
      · rw [if_pos c1] at ht'
        exact .inl ⟨c1, by rw [hfound (.inl c1)]; simpa using ht'⟩
      · rw [if_neg c1] at ht'
        by_cases c3 : z.call.op.kind = 3
        · rw [if_pos c3] at ht'
          exact .inr (.inl ⟨c1, c3, by rw [hfound (.inr c3)]; exact ht'⟩)
        · exact .inr (.inr ⟨c1, c3⟩)
    cases hq : resEq r (ans ml z.call.op) with
    | false =>
      rw [hq] at r11
      refine ⟨H11, .bool true, pv H'.length, .bool false, .bool false, ex10.trans x11, .inl ⟨by simp, ?_⟩⟩
      rcases hcond with ⟨c1, hf⟩ | ⟨c1, c3, hf⟩ | ⟨c1, c3⟩
      · rw [hf] at K1
        simp -implicitDefEqProofs [-Int.natCast_add, F40_b0_v, F40_b0v, fad_pv, Z7 H' ex, hws, lss_int, h1, holesK, ← eh, Z7 Hh exh, Z7 H8 ex8, Z7 H9 ex9', hix, hld Hh exh, hld H8 ex8, hld H9 ex9', ZO Hh exh, ZO H8 ex8, ZO H9 ex9', r8, lay, st, evO, evW, evV, Z2 H10 ex10, eql_int, c1, K1, not_bool, pick_bool, R0, Ra, r11, F40_j1_v, F40_j1v, add_int, hw, fin]
      · rw [hf] at K1
        simp -implicitDefEqProofs [-Int.natCast_add, F40_b0_v, F40_b0v, fad_pv, Z7 H' ex, hws, lss_int, h1, holesK, ← eh, Z7 Hh exh, Z7 H8 ex8, Z7 H9 ex9', hix, hld Hh exh, hld H8 ex8, hld H9 ex9', ZO Hh exh, ZO H8 ex8, ZO H9 ex9', r8, lay, st, evO, evW, evV, Z2 H10 ex10, eql_int, c1, c3, K1, not_bool, pick_bool, R0, Ra, r11, F40_j1_v, F40_j1v, add_int, hw, fin]
      · simp -implicitDefEqProofs [-Int.natCast_add, F40_b0_v, F40_b0v, fad_pv, Z7 H' ex, hws, lss_int, h1, holesK, ← eh, Z7 Hh exh, Z7 H8 ex8, Z7 H9 ex9', hix, hld Hh exh, hld H8 ex8, hld H9 ex9', ZO Hh exh, ZO H8 ex8, ZO H9 ex9', r8, lay, st, evO, evW, evV, Z2 H10 ex10, eql_int, c1, c3, K1, not_bool, pick_bool, R0, Ra, r11, F40_j1_v, F40_j1v, add_int, hw, fin]
    | true =>
      rw [hq] at r11
      refine ⟨H11, .bool true, pv H'.length, .bool false, .bool true, ex10.trans x11, .inr ⟨by rw [ht']; rfl, ?_⟩⟩
      rcases hcond with ⟨c1, hf⟩ | ⟨c1, c3, hf⟩ | ⟨c1, c3⟩
      · rw [hf] at K1
        simp -implicitDefEqProofs [-Int.natCast_add, F40_b0_v, F40_b0v, fad_pv, Z7 H' ex, hws, lss_int, h1, holesK, ← eh, Z7 Hh exh, Z7 H8 ex8, Z7 H9 ex9', hix, hld Hh exh, hld H8 ex8, hld H9 ex9', ZO Hh exh, ZO H8 ex8, ZO H9 ex9', r8, lay, st, evO, evW, evV, Z2 H10 ex10, eql_int, c1, K1, not_bool, pick_bool, R0, Ra, r11, fin]
      · rw [hf] at K1
        simp -implicitDefEqProofs [-Int.natCast_add, F40_b0_v, F40_b0v, fad_pv, Z7 H' ex, hws, lss_int, h1, holesK, ← eh, Z7 Hh exh, Z7 H8 ex8, Z7 H9 ex9', hix, hld Hh exh, hld H8 ex8, hld H9 ex9', ZO Hh exh, ZO H8 ex8, ZO H9 ex9', r8, lay, st, evO, evW, evV, Z2 H10 ex10, eql_int, c1, c3, K1, not_bool, pick_bool, R0, Ra, r11, fin]
      · simp -implicitDefEqProofs [-Int.natCast_add, F40_b0_v, F40_b0v, fad_pv, Z7 H' ex, hws, lss_int, h1, holesK, ← eh, Z7 Hh exh, Z7 H8 ex8, Z7 H9 ex9', hix, hld Hh exh, hld H8 ex8, hld H9 ex9', ZO Hh exh, ZO H8 ex8, ZO H9 ex9', r8, lay, st, evO, evW, evV, Z2 H10 ex10, eql_int, c1, c3, K1, not_bool, pick_bool, R0, Ra, r11, fin]
/-- told. -/
theorem told_runs {ms : List PL} {z : OC} {r : ResV} {s : Value} (hz : OpR H o ms z) (hA : ∀ m ∈ ms, Asc (keysOf m)) (hM : ∀ m ∈ ms, m.length ≤ 4194303) (hms : ms.length ≤ 65536) (hs : SlR H o q s r.list) (hr : r.list.length ≤ 4194304) (hn : 4194304 < n) :
    ∃ H', run G (n + 6) 40 [resA r s, .agg (ocells z).toArray] H = some (.bool (may ms z.call r), H') ∧ Ext H H' := by
  rw [F40_eq]
  obtain ⟨a, m', es⟩ := hs.isSlice
  obtain ⟨H1, e1⟩ : ∃ t, t = H.new ⟨resCells r s, 29, 1, false⟩ := ⟨_, rfl⟩
  have b1 := boxR r es H
  rw [← e1] at b1
  have l1 : H1.length = H.length + 1 := by rw [e1, new_len]
  obtain ⟨H2, e2⟩ : ∃ t, t = H1.new ⟨ocells z, 78, 1, false⟩ := ⟨_, rfl⟩
  have b2 := boxOC z H1
  rw [← e2, l1] at b2
  have x2 : Ext H H2 := by rw [e2, e1]; exact ((Ext.refl H).new _).new _
  have g1 : H2.get H.length = some ⟨resCells r s, 29, 1, false⟩ := by rw [e2, get_new_lt (by omega), e1]; exact get_new
  have g2 : H2.get (H.length + 1) = some ⟨ocells z, 78, 1, false⟩ := by
    have := get_new (H := H1) (c := ⟨ocells z, 78, 1, false⟩)
    rw [l1, ← e2] at this; exact this
  have f2 := x2.fr o (-9)
  have hz2 := hz.fr f2 (by simp) (by simp)
  have hs2 := hs.fr f2 (by simp)
  have evR := eqV_resA r es
  have evO := eqV_opA z.call.op
  have Z5 : ∀ Hx, Ext H2 Hx → ld1 (.pointer (some ⟨H.length + 1, 5, none⟩)) Hx = some (.bool z.call.took.isSome) := fun Hx hx => ld1_pv _ 5 _ (hx.get g2)
  have Z6 : ∀ Hx, Ext H2 Hx → ld1 (.pointer (some ⟨H.length + 1, 6, none⟩)) Hx = some z.ah.v := fun Hx hx => ld1_pv _ 6 _ (hx.get g2)
  have Z7 : ∀ Hx, Ext H2 Hx → ld1 (.pointer (some ⟨H.length + 1, 7, none⟩)) Hx = some z.ws.v := fun Hx hx => ld1_pv _ 7 _ (hx.get g2)
  have Z2 : ∀ Hx, Ext H2 Hx → ld1 (.pointer (some ⟨H.length + 1, 2, none⟩)) Hx = some (cv z.call.op.kind) := fun Hx hx => ld1_pv _ 2 _ (hx.get g2)
  have ZO : ∀ Hx, Ext H2 Hx → ldn 3 (.pointer (some ⟨H.length + 1, 2, none⟩)) Hx = some (opA z.call.op) := fun Hx hx => by simp [ldn, ldCells, hx.get g2]
  have R0 : ∀ Hx, Ext H2 Hx → ldn 6 (pv H.length) Hx = some (resA r s) := fun Hx hx => ld_6 _ _ _ (hx.get g1)
  have refl2 : Ext H2 H2 := .refl _
  unfold may
  cases ht : z.call.took with
  | some w =>
    obtain ⟨ha, hasc, hwl⟩ := hz2.took w ht
    obtain ⟨y, H3, r3, R3, x3⟩ := rAnswer_runs (G := G) (n := n + 1) ha hwl z.call.op (by omega)
    have ea : ansL w z.call.op = ans w z.call.op := by unfold ansL; rw [if_pos hasc]
    rw [ea] at R3
    obtain ⟨H4, r4, x4⟩ := Results_runs (G := G) (n := n + 3) (x := resA r s) ⟨s, rfl, hs2.ext x3⟩ R3 (by omega) (by omega)
    refine ⟨H4, ?_, (x2.trans x3).trans x4⟩
    have Z5' := Z5 H2 refl2
    rw [ht] at Z5'
    simp -implicitDefEqProofs [F40, b1, b2, fad_pv, Z5', Z6 H2 refl2, R0 H2 refl2, R0 H3 x3, ZO H2 refl2, r3, r4, evR]
  | none =>
    have Z5' := Z5 H2 refl2
    rw [ht] at Z5'
    obtain ⟨H3, r3, x3⟩ := change_runs (G := G) (n := n + 4) z.call.op H2
    have hk := hz.kind
    have k1 : (1 : Int) ≤ z.call.op.kind := hk.1
    rw [show (decide (1 ≤ z.call.op.kind) && decide (z.call.op.kind ≤ 3)) = decide (z.call.op.kind ≤ 3) by simp [k1]] at r3
    -- an answer that is always right
    have always : ∀ (w : Int) (Hx : Heap), Ext H2 Hx → ∃ Hy, run G (n + 5) 12 [resA r s, resA (resW w) nils] Hx = some (.bool (resEq r (resW w)), Hy) ∧ Ext H2 Hy := fun w Hx hx => by
      obtain ⟨Hy, ry, xy⟩ := Results_runs (G := G) (n := n + 3) (x := resA r s) ⟨s, rfl, hs2.ext hx⟩ (y := resA (resW w) nils) (rb := resW w) (o2 := o) (q2 := 0) ⟨nils, rfl, .nil⟩ (by omega) (by omega)
      exact ⟨Hy, ry, hx.trans xy⟩
    obtain ⟨H4, r4, x4⟩ := always 8 H3 x3
    have first : ∃ H5, Ext H2 H5 ∧ (if z.call.op.kind ≤ 3 then H5 = H4 else H5 = H3) := by
      by_cases h3 : z.call.op.kind ≤ 3
      · exact ⟨H4, x4, by rw [if_pos h3]⟩
      · exact ⟨H3, x3, by rw [if_neg h3]⟩
    obtain ⟨H5, x5, e5⟩ := first
    obtain ⟨H6, r6, x6⟩ := always 9 H5 x5
    have second : ∃ H7, Ext H2 H7 ∧ (if z.call.op.kind ≥ 5 then H7 = H6 else H7 = H5) := by
      by_cases h3 : z.call.op.kind ≥ 5
      · exact ⟨H6, x6, by rw [if_pos h3]⟩
      · exact ⟨H5, x5, by rw [if_neg h3]⟩
    obtain ⟨H7, x7, e7⟩ := second
    have a3 := R0 H3 x3
    have a5 := R0 H5 x5
    have q3 := Z2 H3 x3
    have q4 := Z2 H4 x4
    have q5 := Z2 H5 x5
    have q6 := Z2 H6 x6
    have q7 := Z2 H7 x7
    have e9 : decide (z.call.op.kind > 4) = decide (z.call.op.kind ≥ 5) := by
      rw [decide_eq_decide]; constructor <;> intro h <;> omega
    rw [e9]
    by_cases c1 : z.call.op.kind ≤ 3 ∧ resEq r (resW 8) = true
    · rw [c1.2] at r4
      refine ⟨H4, ?_, x2.trans x4⟩
      simp -implicitDefEqProofs [-ge_iff_le, F40, b1, b2, fad_pv, Z5', ZO H2 refl2, r3, pick_bool, a3, a5, abRw, q3, q4, q5, q6, q7, geq_int, eql_int, c1.1, c1.2, r4]
    have d1 : (decide (z.call.op.kind ≤ 3) && resEq r (resW 8)) = false := by
      cases hh : (decide (z.call.op.kind ≤ 3) && resEq r (resW 8)) with
      | false => rfl
      | true => simp at hh; exact absurd hh c1
    rw [d1]
    simp only [Bool.false_eq_true, if_false]
    by_cases c2 : z.call.op.kind ≥ 5 ∧ resEq r (resW 9) = true
    · have n3 : ¬ z.call.op.kind ≤ 3 := by omega
      rw [if_neg n3] at e5
      subst e5
      rw [c2.2] at r6
      refine ⟨H6, ?_, x2.trans x6⟩
      simp -implicitDefEqProofs [-ge_iff_le, F40, b1, b2, fad_pv, Z5', ZO H2 refl2, r3, pick_bool, a3, a5, abRw, q3, q4, q5, q6, q7, geq_int, eql_int, n3, c2.1, c2.2, r6]
    have d2 : (decide (z.call.op.kind ≥ 5) && resEq r (resW 9)) = false := by
      cases hh : (decide (z.call.op.kind ≥ 5) && resEq r (resW 9)) with
      | false => rfl
      | true => simp [-ge_iff_le] at hh; exact absurd hh c2
    rw [d2]
    simp only [Bool.false_eq_true, if_false]
    -- what stands ahead of the loop
    by_cases k2 : z.call.op.kind = 2
    · have n3 : z.call.op.kind ≤ 3 := by omega
      have n5 : ¬ z.call.op.kind ≥ 5 := by omega
      rw [if_pos n3] at e5
      subst e5
      rw [if_neg n5] at e7
      subst e7
      have f8 : resEq r (resW 8) = false := by simpa [n3] using d1
      rw [f8] at r4
      have hany : ((ms.drop z.call.frm).any fun m => !trn m z.call.op && resEq r (ans m z.call.op)) = false := by
        rw [List.any_eq_false]
        intro m _
        have : trn m z.call.op = true := by unfold trn; rw [if_neg (by omega), if_neg (by omega)]; simp [k2]
        rw [this]; simp
      rw [hany]
      refine ⟨H7, ?_, x2.trans x7⟩
      simp -implicitDefEqProofs [-ge_iff_le, F40, b1, b2, fad_pv, Z5', ZO H2 refl2, r3, pick_bool, a3, a5, abRw, q3, q4, q5, q6, q7, geq_int, eql_int, n3, n5, k2, r4]
    -- the loop
    obtain ⟨wl, bw, hsl, hwl, hel⟩ := hz2.was
    obtain ⟨D, eD⟩ : ∃ D, D = ms.drop z.call.frm := ⟨_, rfl⟩
    rw [← eD] at hwl hel ⊢
    have hDm : ∀ m ∈ D, m ∈ ms := fun m hm => by rw [eD] at hm; exact List.mem_of_mem_drop hm
    have hDl : D.length ≤ 65536 := by rw [eD]; simp; omega
    have hlen := hsl.len
    rw [hwl] at hlen
    have loop : ∀ (x20 x30 : Value), ∃ H', Ext H2 H' ∧ onOut (iter (n + 5) (F40_b0 (run G (n + 5)) (n + 5)) [resA r s, .agg (ocells z).toArray, .bool false, pv (H.length + 1), .bool false, pv H.length, x20, x30, .bool false, cv 0, undef, undef, undef, undef] H7) (kBlk 0 (kSeq (F40_j2 (run G (n + 5)) (n + 5)) (kRet Try.prog [.tmp 4] [0, 1, 4, 3, 8, 2, 23, 32, 36, 5, 41, 6, 70, 73]))) =
        some (.bool (D.any fun m => !trn m z.call.op && resEq r (ans m z.call.op)), H') := by
      intro x20 x30
      obtain ⟨r', hit, hne, x', hr'⟩ := iter_go (step := F40_b0 (run G (n + 5)) (n + 5))
        (Q := fun m vs H' => ∃ (i : Nat) (d41 d6 d70 d73 : Value), i ≤ D.length ∧ m = D.length - i ∧ vs = [resA r s, .agg (ocells z).toArray, .bool false, pv (H.length + 1), .bool false, pv H.length, x20, x30, .bool false, cv i, d41, d6, d70, d73] ∧ Ext H2 H' ∧ ∀ m ∈ D.take i, (!trn m z.call.op && resEq r (ans m z.call.op)) = false)
        (R := fun r' => Ext H2 r'.2.2 ∧ ((r'.1 = .exit 0 ∧ (∃ d5 d41 d6 d70 d73, r'.2.1 = [resA r s, .agg (ocells z).toArray, .bool false, pv (H.length + 1), .bool false, pv H.length, x20, x30, .bool false, d5, d41, d6, d70, d73]) ∧ ∀ m ∈ D, (!trn m z.call.op && resEq r (ans m z.call.op)) = false) ∨
          (r'.1 = .ret ∧ (∃ d5 d41 d6 d70 d73, r'.2.1 = [resA r s, .agg (ocells z).toArray, .bool true, pv (H.length + 1), .bool false, pv H.length, x20, x30, .bool false, d5, d41, d6, d70, d73]) ∧ ∃ m ∈ D, (!trn m z.call.op && resEq r (ans m z.call.op)) = true)))
        (by
          rintro m vs H' ⟨i, d41, d6, d70, d73, hi, rfl, rfl, ex, hall⟩
          by_cases hlt : i < D.length
          · have hDi : D[i]? = some D[i] := List.getElem?_eq_getElem hlt
            obtain ⟨v, hv⟩ : ∃ v, wl[i]? = some v := ⟨_, List.getElem?_eq_getElem (by omega)⟩
            have hvR := hel i v D[i] hv hDi
            obtain ⟨iq, hbq, hix, hld⟩ := hsl.idx hv
            have hiq := (hsl.lt' hbq).1
            have hmem := hDm _ (List.getElem_mem hlt)
            obtain ⟨H'', w41, w6, w70, w73, ex'', h | h⟩ := told_one (G := G) (n := n) (v0 := resA r s) (v1 := .agg (ocells z).toArray) (v8 := .bool false) (v23 := x20) (v32 := x30) (v36 := .bool false) (v41 := d41) (v6 := d6) (v70 := d70) (v73 := d73) ex g1 g2 hs2 hr hlt hDl hlen hix hiq (fun Hx hx => hld Hx (hx.old iq hiq)) hvR (hA _ hmem) (hM _ hmem) k2 hn
            · refine .inl ⟨_, H'', D.length - (i + 1), by omega, h.2, i + 1, w41, w6, w70, w73, by omega, rfl, rfl, ex'', fun m hm => ?_⟩
              rw [List.take_add_one, hDi] at hm
              rcases List.mem_append.1 hm with hm | hm
              · exact hall m hm
              · have : m = D[i] := by simpa using hm
                rw [this]; exact h.1
            · exact .inr ⟨_, h.2, by simp, ex'', .inr ⟨rfl, ⟨_, _, _, _, _, rfl⟩, D[i], List.getElem_mem hlt, h.1⟩⟩
          · have h1 : ¬ (i : Int) < D.length := by omega
            rw [List.take_of_length_le (by omega)] at hall
            refine .inr ⟨(.exit 0, [resA r s, .agg (ocells z).toArray, .bool false, pv (H.length + 1), .bool false, pv H.length, x20, x30, .bool false, cv i, .bool false, d6, d70, d73], H'), ?_, by simp, ex, .inl ⟨rfl, ⟨_, _, _, _, _, rfl⟩, hall⟩⟩
            simp -implicitDefEqProofs [F40_b0_v, F40_b0v, fad_pv, Z7 H' ex, hlen, lss_int, h1, fin])
        (D.length - 0) [resA r s, .agg (ocells z).toArray, .bool false, pv (H.length + 1), .bool false, pv H.length, x20, x30, .bool false, cv (0 : Nat), undef, undef, undef, undef] H7 ⟨0, _, _, _, _, Nat.zero_le _, rfl, rfl, x7, fun m hm => by simp at hm⟩ (n + 5) (by omega)
      obtain ⟨e, vs, H'⟩ := r'
      simp only at x' hr'
      simp only [Int.natCast_zero] at hit
      refine ⟨H', x', ?_⟩
      rcases hr' with ⟨rfl, ⟨d5, d41, d6, d70, d73, rfl⟩, hall⟩ | ⟨rfl, ⟨d5, d41, d6, d70, d73, rfl⟩, m, hm, ht'⟩
      · have hany : (D.any fun m => !trn m z.call.op && resEq r (ans m z.call.op)) = false := by
          rw [List.any_eq_false]
          intro m hm
          rw [hall m hm]; simp
        rw [hany]
        simp -implicitDefEqProofs [hit, kBlk, kSeq, up, F40_j2_v, F40_j2v]
      · have hany : (D.any fun m => !trn m z.call.op && resEq r (ans m z.call.op)) = true := List.any_eq_true.2 ⟨m, hm, ht'⟩
        rw [hany]
        simp -implicitDefEqProofs [hit, kBlk, kSeq, up, resK, resL, tupK]
        rfl
    generalize (D.any fun m => !trn m z.call.op && resEq r (ans m z.call.op)) = B at loop ⊢
    obtain ⟨H8, x8, hl⟩ := loop (.bool false) (.bool false)
    refine ⟨H8, ?_, x2.trans x8⟩
    by_cases n3 : z.call.op.kind ≤ 3
    · have n5 : ¬ z.call.op.kind ≥ 5 := by omega
      rw [if_pos n3] at e5
      subst e5
      rw [if_neg n5] at e7
      subst e7
      have f8 : resEq r (resW 8) = false := by simpa [n3] using d1
      rw [f8] at r4
      simp -implicitDefEqProofs [-ge_iff_le, F40, b1, b2, fad_pv, Z5', ZO H2 refl2, r3, pick_bool, a3, a5, abRw, q3, q4, q5, q6, q7, geq_int, eql_int, n3, n5, k2, r4, hl]
    · rw [if_neg n3] at e5
      subst e5
      by_cases n5 : z.call.op.kind ≥ 5
      · rw [if_pos n5] at e7
        subst e7
        have f9 : resEq r (resW 9) = false := by
          cases hh : resEq r (resW 9) with
          | false => rfl
          | true => exact absurd ⟨n5, hh⟩ c2
        rw [f9] at r6
        simp -implicitDefEqProofs [-ge_iff_le, F40, b1, b2, fad_pv, Z5', ZO H2 refl2, r3, pick_bool, a3, a5, abRw, q3, q4, q5, q6, q7, geq_int, eql_int, n3, n5, k2, r6, hl]
      · rw [if_neg n5] at e7
        subst e7
        simp -implicitDefEqProofs [-ge_iff_le, F40, b1, b2, fad_pv, Z5', ZO H2 refl2, r3, pick_bool, a3, a5, abRw, q3, q4, q5, q6, q7, geq_int, eql_int, n3, n5, k2, hl]
end
end Go.Proofs.Ytgakioiplkehgaa.Fun
namespace Go.Proofs.Ytgakioiplkehgaa.Fun
open Go Go.RowKit Go.Proofs.YtgakioiplkehgaaA.Am
set_option linter.unusedVariables false
set_option linter.unusedSimpArgs false
set_option linter.unnecessarySimpa false
set_option maxRecDepth 10000
theorem slSV {H : Heap} {o : Owner} {q : Int} {x : Value} {l : PL} (h : SlR H o q x l) : ∃ v : SV, x = v.v := by
  obtain ⟨a, c, rfl⟩ := h.isSlice
  exact ⟨⟨a, _, c⟩, rfl⟩
theorem sSV {H : Heap} {o : Owner} {q : Int} {x : Value} {l : List Value} {b : Option Nat} (h : Sl H o q x l b) : ∃ v : SV, x = v.v := by
  obtain ⟨a, n, c, rfl⟩ := h.isSlice
  exact ⟨⟨a, n, c⟩, rfl⟩
theorem bsW1 (s : SV) (H : Heap) : abuildSlice Try.prog 76 1 [(0, s.v)] H = some (.slice (some ⟨H.length, 0, none⟩) 1 1, H.new ⟨[s.v], 27, 1, false⟩) := by kernel_rfl
section
variable {G : Oracle} {H : Heap} {o : Owner} {q : Int} {n w : Nat}
/-- Half way: the first i have the new map among theirs. -/
def HalfR (H : Heap) (o : Owner) (ox : Value) (l : List OC) (ms : List PL) (new : PL) (i : Nat) : Prop :=
  ∃ li : List OC, OpL H o (-41) ox li ∧ li.length = l.length ∧ ∀ (j : Nat) (z' z : OC), li[j]? = some z' → l[j]? = some z → z'.thread = z.thread ∧ z'.uid = z.uid ∧ z'.call = z.call ∧
    WasR H o z.uid z'.ws.v (if j < i then (ms ++ [new]).drop z.call.frm else ms.drop z.call.frm) ∧ ∀ a, z.call.took = some a → SlR H o (-44) z'.ah.v a
/-- The new map is told to each that has not come back. -/
theorem half_step {H : Heap} {o : Owner} {ox : Value} {sm : SV} {l : List OC} {ms : List PL} {new : PL} {i : Nat} {inv : Int} {ty : TypeId} (hb : H.get w = some ⟨[sm.v, ox, cv inv], ty, 1, false⟩) (ow : o w = -40) (hm : SlR H o (-44) sm.v new)
    (h : HalfR H o ox l ms new i) (hi : i < l.length) (hl : l.length ≤ 65536) (hms : ms.length ≤ 65536) (hnd : (l.map fun z => z.uid).Nodup) (hf : ∀ z ∈ l, z.call.frm ≤ ms.length) {v1 v4 v3 v5 v53 v6 v8 v86 v120 : Value} :
    ∃ H' o' ps, F39_b0 (run G (n + 7)) (n + 7) [pv w, v1, v4, v3, v5, v53, v6, v8, v86, cv i, v120] H = some (.normal, [pv w, v1, v4, v3, v5, v53, v6, v8, v86, cv (i + 1 : Nat), .bool true], H') ∧
      H'.get w = some ⟨[sm.v, ox, cv inv], ty, 1, false⟩ ∧ HalfR H' o' ox l ms new (i + 1) ∧ Fr H o H' o' ps ∧ (-1 : Int) ∉ ps ∧ (-40 : Int) ∉ ps ∧ (-44 : Int) ∉ ps := by
  obtain ⟨li, hop, hlen, hli⟩ := h
  obtain ⟨z', hz'⟩ : ∃ z', li[i]? = some z' := ⟨_, List.getElem?_eq_getElem (by omega)⟩
  obtain ⟨z, hz⟩ : ∃ z, l[i]? = some z := ⟨_, List.getElem?_eq_getElem hi⟩
  obtain ⟨t1, t2, t3, ⟨wl, bw, hsl, hwl, hel⟩, t5⟩ := hli i z' z hz' hz
  rw [if_neg (by omega)] at hwl hel
  have hzm : z ∈ l := List.mem_of_getElem? hz
  have hfz := hf z hzm
  have hxl := hop.len
  rw [hlen] at hxl
  -- a block with the map
  obtain ⟨H1, e1⟩ : ∃ t, t = H.new ⟨[sm.v], 27, 1, false⟩ := ⟨_, rfl⟩
  have bs := bsW1 sm H
  rw [← e1] at bs
  have x1 : Ext H H1 := by rw [e1]; exact (Ext.refl H).new _
  have f1 := x1.fr o (-9)
  have g1 : H1.get H.length = some ⟨[sm.v], 27, 1, false⟩ := by rw [e1]; exact get_new
  have hwl2 : wl.length ≤ 65536 := by rw [hwl]; simp; omega
  obtain ⟨ws', H2, o2, b2, ra, sl2, f2, ow2⟩ := (hsl.fr f1 (by simp)).app1 (tE := 27) (by_ := 24) g1 rfl (by omega) (by omega)
  obtain ⟨wv, ewv⟩ := sSV sl2
  subst ewv
  have hop1 := hop.fr f1 (by simp)
  have hop2 : OpL H2 o2 (-41) ox li := hop1.fr f2 (by simp; omega)
  obtain ⟨ib, b, hix, hbk, hbo, hc, hro, hbl, hst⟩ := hop2.idx hz'
  have hst7 := hst 7 wv.v { z' with ws := wv } (by omega) rfl
  have st := st_1 ib (8 * i + 7) wv.v H2 hbk hro (by omega) rfl rfl rfl
  obtain ⟨H3, e3⟩ : ∃ t, t = H2.put ib { b with cells := b.cells.set (8 * i + 7) wv.v } := ⟨_, rfl⟩
  rw [← e3] at st hst7
  have f3 : Fr H2 o2 H3 o2 [-41] := by rw [e3]; exact (Fr.refl _ _ _).put fun _ => by simp [hbo]
  -- what is read
  obtain ⟨ib0, b0, hix0, hbk0, hbo0, hc0, _⟩ := hop.idx hz'
  have eib : ib0 = ib := by
    have := (hix0 H).symm.trans (hix H)
    simpa using this
  subst eib
  have W0 : ∀ Hx : Heap, Hx.get w = H.get w → ld1 (pv w) Hx = some sm.v ∧ ld1 (.pointer (some ⟨w, 1, none⟩)) Hx = some ox := fun Hx hx => by
    have hb' : Hx.get w = some ⟨[sm.v, ox, cv inv], ty, 1, false⟩ := by rw [hx]; exact hb
    exact ⟨ld1_pv w 0 Hx hb', ld1_pv w 1 Hx hb'⟩
  have hw1 : H1.get w = H.get w := f1.same w (get_lt hb) (by simp)
  have hw2 : H2.get w = H.get w := by rw [f2.same w (by have := f1.size; have := get_lt hb; omega) (by rw [f1.own w (get_lt hb), ow]; simp; omega)]; exact hw1
  have hw3 : H3.get w = H.get w := by rw [f3.same w (by have := f1.size; have := f2.size; have := get_lt hb; omega) (by rw [f2.own w (by have := f1.size; have := get_lt hb; omega), f1.own w (get_lt hb), ow]; simp)]; exact hw2
  obtain ⟨A0, A1⟩ := W0 H rfl
  obtain ⟨B0, B1⟩ := W0 H1 hw1
  obtain ⟨C0, C1⟩ := W0 H2 hw2
  have S0 : ld1 (.pointer (some ⟨ib0, 8 * i + 7, none⟩)) H = some z'.ws.v := by rw [ld1_pv _ _ _ hbk0]; exact hc0 7 (by omega)
  have S1 : ld1 (.pointer (some ⟨ib0, 8 * i + 7, none⟩)) H1 = some z'.ws.v := by rw [ld1_pv _ _ _ (x1.get hbk0)]; exact hc0 7 (by omega)
  have S2 : ld1 (.pointer (some ⟨ib0, 8 * i + 7, none⟩)) H2 = some z'.ws.v := by rw [ld1_pv _ _ _ hbk]; exact hc 7 (by omega)
  have h1 : (i : Int) < l.length := by omega
  have hw : IntKind.i64.wrap ((i : Int) + 1) = ((i + 1 : Nat) : Int) := by rw [w64 (by omega)]; omega
  have ev : ∀ v : SV, eqV v.v v.v = true := fun v => by simp [Go.Proofs.YtgakioiplkehgaaA.Am.eqV, eqV1]
  have evx : eqV ox ox = true := hop.eqV
  refine ⟨H3, o2, [-41, -1000 - (z.uid : Int)], ?_, by rw [hw3]; exact hb, ⟨li.set i { z' with ws := wv }, hst7, by simp [hlen], fun j y' y hy' hy => ?_⟩, ((f1.wk (by simp)).tr (f2.wk (by simp))).tr (f3.wk (by simp)), by simp; omega, by simp; omega, by simp; omega⟩
  · simp -implicitDefEqProofs [-Int.natCast_add, F39_b0_v, F39_b0v, nck_pv, fad_pv, A0, A1, B0, B1, C0, C1, hxl, lss_int, h1, hix0, S0, S1, S2, bs, ra, st, ev, evx, add_int, hw, fin]
  · by_cases hji : i = j
    · subst hji
      rw [List.getElem?_set_self (by omega)] at hy'
      cases hy'
      rw [hz] at hy
      cases hy
      refine ⟨t1, t2, t3, ?_, fun a ha => ((t5 a ha).fr f1 (by simp)).fr f2 (by simp; omega) |>.fr f3 (by simp)⟩
      rw [if_pos (by omega), List.drop_append_of_le_length hfz]
      refine ⟨wl ++ [sm.v], b2, sl2.fr f3 (by simp; omega), by simp [hwl], fun k v m hv hm' => ?_⟩
      rcases Nat.lt_or_ge k wl.length with g | g
      · rw [List.getElem?_append_left g] at hv
        rw [List.getElem?_append_left (by omega)] at hm'
        exact (((hel k v m hv hm').fr f1 (by simp)).fr f2 (by simp; omega)).fr f3 (by simp)
      · rw [List.getElem?_append_right g] at hv
        rw [List.getElem?_append_right (by omega)] at hm'
        have hk : k - wl.length = 0 := by
          have := (List.getElem?_eq_some_iff.1 hv).1
          simp at this; omega
        rw [hk] at hv
        rw [← hwl, hk] at hm'
        have e1' : sm.v = v := by simpa using hv
        have e2' : new = m := by simpa using hm'
        rw [← e1', ← e2']
        exact ((hm.fr f1 (by simp)).fr f2 (by simp; omega)).fr f3 (by simp)
    · rw [List.getElem?_set_ne hji] at hy'
      obtain ⟨u1, u2, u3, u4, u5⟩ := hli j y' y hy' hy
      have hu : (y.uid : Int) ≠ z.uid := fun e => by
        have hu' : y.uid = z.uid := by omega
        exact hji (nodup_idx hnd (a := z.uid) (by rw [List.getElem?_map, hz]; rfl) (by rw [List.getElem?_map, hy]; simp [hu']))
      refine ⟨u1, u2, u3, ?_, fun a ha => (((u5 a ha).fr f1 (by simp)).fr f2 (by simp; omega)).fr f3 (by simp)⟩
      have : (if j < i + 1 then (ms ++ [new]).drop y.call.frm else ms.drop y.call.frm) = (if j < i then (ms ++ [new]).drop y.call.frm else ms.drop y.call.frm) := by
        by_cases g : j < i
        · rw [if_pos g, if_pos (by omega)]
        · rw [if_neg g, if_neg (by omega)]
      rw [this]
      exact ((u4.fr f1 (by simp) (by simp)).fr f2 (by simp; omega) (by simp; omega)).fr f3 (by simp; omega) (by simp)
end
end Go.Proofs.Ytgakioiplkehgaa.Fun
namespace Go.Proofs.Ytgakioiplkehgaa.Fun
open Go Go.RowKit Go.Proofs.YtgakioiplkehgaaA.Am
set_option linter.unusedVariables false
set_option linter.unusedSimpArgs false
set_option linter.unnecessarySimpa false
set_option maxRecDepth 10000
structure RefP (H : Heap) (o : Owner) (w : Nat) (sm : SV) (ox : Value) (l : List OC) (ty : TypeId) (S : StV) : Prop where
  blk : H.get w = some ⟨[sm.v, ox, cv S.inv], ty, 1, false⟩
  ow : o w = -40
  map : SlR H o (-44) sm.v S.now
  ops : OpL H o (-41) ox l
  each : ∀ z ∈ l, OpR H o S.maps z
  calls : S.calls = l.map fun z => (z.thread, z.call)
  nd : (l.map fun z => z.uid).Nodup
  ne : S.maps ≠ []
  asc : ∀ m ∈ S.maps, Asc (keysOf m)
  frm : ∀ z ∈ l, z.call.frm ≤ S.maps.length
theorem RefP.fr {H H' : Heap} {o o' : Owner} {w : Nat} {sm : SV} {ox : Value} {l : List OC} {ty : TypeId} {S : StV} (h : RefP H o w sm ox l ty S) (f : Fr H o H' o' []) : RefP H' o' w sm ox l ty S :=
  ⟨by rw [f.same w (get_lt h.blk) (by simp)]; exact h.blk, by rw [f.own w (get_lt h.blk)]; exact h.ow, h.map.fr f (by simp), h.ops.fr f (by simp), fun z hz => (h.each z hz).fr f (by simp) (by simp), h.calls, h.nd, h.ne, h.asc, h.frm⟩
def RefR (H : Heap) (o : Owner) (w : Nat) (S : StV) : Prop := ∃ sm ox l ty, RefP H o w sm ox l ty S
theorem now_mem {S : StV} (h : S.maps ≠ []) : S.now ∈ S.maps := by
  have : 0 < S.maps.length := List.length_pos_iff.2 h
  unfold StV.now
  rw [List.getD_eq_getElem?_getD, List.getElem?_eq_getElem (by omega)]
  exact List.getElem_mem _
theorem oidx_kidx {l : List OC} {cs : List (Int × CallV)} (h : cs = l.map fun z => (z.thread, z.call)) (t : Int) : kidx cs t = oidx l t := by
  subst h
  unfold kidx oidx
  rw [List.findIdx?_map]; rfl
theorem oidx_some {l : List OC} {t : Int} {j : Nat} (h : oidx l t = some j) : ∃ z, l[j]? = some z ∧ z.thread = t := by
  unfold oidx at h
  obtain ⟨hj, h1, _⟩ := List.findIdx?_eq_some_iff_getElem.1 h
  exact ⟨l[j], List.getElem?_eq_getElem hj, by simpa using h1⟩
theorem cells_sub {l : List Value} {z : OC} {a : Nat} (h : ∀ k, k < 8 → l[a + k]? = (ocells z)[k]?) {k m : Nat} (hk : k + m ≤ 8) : (l.drop (a + k)).take m = ((ocells z).drop k).take m := by
  apply List.ext_getElem?
  intro i
  rw [List.getElem?_take, List.getElem?_take]
  split
  · rw [List.getElem?_drop, List.getElem?_drop, Nat.add_assoc, h (k + i) (by omega)]
  · rfl
theorem opBox (op : OpV) (H : Heap) : stS 3 (pv H.length) (opA op) (H.new ⟨[cv 0, cv 0, cv 0], 23, 1, false⟩) = some (undef, H.new ⟨[cv op.kind, cv op.key, cv op.value], 23, 1, false⟩) := by
  simp [stS, stCells, Value.cells, known, oneCell, splice, Heap.put, Heap.new, Heap.get, List.set_append]
theorem now_app (S : StV) (m : PL) (cs : List (Int × CallV)) (v : Int) : StV.now ⟨S.maps ++ [m], cs, v⟩ = m := by
  simp [StV.now, List.getD_eq_getElem?_getD]
theorem trn_kind {l : PL} {op : OpV} (h : trn l op = true) : 1 ≤ op.kind ∧ op.kind ≤ 3 := by
  unfold trn at h
  split at h
  · omega
  · split at h
    · omega
    · have := of_decide_eq_true h; omega
/-- The loop of takes. -/
theorem half_all {G : Oracle} {n w : Nat} {H : Heap} {o : Owner} {ox : Value} {sm : SV} {l : List OC} {ms : List PL} {new : PL} {inv : Int} {ty : TypeId} (hb : H.get w = some ⟨[sm.v, ox, cv inv], ty, 1, false⟩) (ow : o w = -40) (hm : SlR H o (-44) sm.v new)
    (h : HalfR H o ox l ms new 0) (hl : l.length ≤ 65536) (hms : ms.length ≤ 65536) (hnd : (l.map fun z => z.uid).Nodup) (hf : ∀ z ∈ l, z.call.frm ≤ ms.length) (hn : 65536 < n) (v1 v4 v3 v5 v53 v6 v8 v86 : Value) :
    ∃ H' o' ps, iter (n + 7) (F39_b0 (run G (n + 7)) (n + 7)) [pv w, v1, v4, v3, v5, v53, v6, v8, v86, cv 0, undef] H = some (.exit 0, [pv w, v1, v4, v3, v5, v53, v6, v8, v86, cv l.length, .bool false], H') ∧
      H'.get w = some ⟨[sm.v, ox, cv inv], ty, 1, false⟩ ∧ o' w = -40 ∧ SlR H' o' (-44) sm.v new ∧ HalfR H' o' ox l ms new l.length ∧ Fr H o H' o' ps ∧ (-1 : Int) ∉ ps := by
  obtain ⟨r, hit, hne, o', ps, r1, r2, r3, r4, r5, r6, r7, r8⟩ := iter_go (step := F39_b0 (run G (n + 7)) (n + 7))
    (Q := fun m vs H' => ∃ (i : Nat) (o' : Owner) (ps : List Int) (d : Value), i ≤ l.length ∧ m = l.length - i ∧ vs = [pv w, v1, v4, v3, v5, v53, v6, v8, v86, cv i, d] ∧
      H'.get w = some ⟨[sm.v, ox, cv inv], ty, 1, false⟩ ∧ o' w = -40 ∧ SlR H' o' (-44) sm.v new ∧ HalfR H' o' ox l ms new i ∧ Fr H o H' o' ps ∧ (-1 : Int) ∉ ps)
    (R := fun r => ∃ (o' : Owner) (ps : List Int), r.1 = .exit 0 ∧ r.2.1 = [pv w, v1, v4, v3, v5, v53, v6, v8, v86, cv l.length, .bool false] ∧
      r.2.2.get w = some ⟨[sm.v, ox, cv inv], ty, 1, false⟩ ∧ o' w = -40 ∧ SlR r.2.2 o' (-44) sm.v new ∧ HalfR r.2.2 o' ox l ms new l.length ∧ Fr H o r.2.2 o' ps ∧ (-1 : Int) ∉ ps)
    (by
      rintro m vs H' ⟨i, o', ps, d, hi, rfl, rfl, gb, go, gm, gh, gf, g1⟩
      by_cases hlt : i < l.length
      · obtain ⟨H2, o2, qs, e2, b2, h2, f2, q1, q2, q3⟩ := half_step (G := G) (n := n) gb go gm gh hlt hl hms hnd hf (v1 := v1) (v4 := v4) (v3 := v3) (v5 := v5) (v53 := v53) (v6 := v6) (v8 := v8) (v86 := v86) (v120 := d)
        refine .inl ⟨_, H2, l.length - (i + 1), by omega, e2, i + 1, o2, ps ++ qs, _, by omega, rfl, rfl, b2, by rw [f2.own w (get_lt gb)]; exact go, gm.fr f2 q3, h2, gf.trans f2 (fun _ h => List.mem_append_left _ h) (fun _ h => List.mem_append_right _ h), by simp only [List.mem_append]; rintro (h | h); exact g1 h; exact q1 h⟩
      · have : i = l.length := by omega
        subst this
        obtain ⟨li, hop, hlen, _⟩ := gh
        have hxl := hop.len
        rw [hlen] at hxl
        have W1 : ld1 (.pointer (some ⟨w, 1, none⟩)) H' = some ox := ld1_pv w 1 H' gb
        have h1 : ¬ (l.length : Int) < l.length := by omega
        refine .inr ⟨(.exit 0, [pv w, v1, v4, v3, v5, v53, v6, v8, v86, cv l.length, .bool false], H'), ?_, by simp, o', ps, rfl, rfl, gb, go, gm, ⟨li, hop, hlen, by assumption⟩, gf, g1⟩
        simp -implicitDefEqProofs [F39_b0_v, F39_b0v, nck_pv, fad_pv, W1, hxl, lss_int, h1, fin])
    (l.length - 0) [pv w, v1, v4, v3, v5, v53, v6, v8, v86, cv (0 : Nat), undef] H ⟨0, o, [], _, Nat.zero_le _, rfl, rfl, hb, ow, hm, h, .refl _ _ _, by simp⟩ (n + 7) (by omega)
  obtain ⟨e, vs, H'⟩ := r
  simp only at r1 r2 r3 r5 r6 r7
  subst r1 r2
  simp only [Int.natCast_zero] at hit
  exact ⟨H', o', ps, hit, r3, r4, r5, r6, r7, r8⟩
/-- What an event comes to. -/
def RStepR (G : Oracle) (H : Heap) (o : Owner) (w : Nat) (S : StV) (e : EvV) (N : Nat) (f : FuncId) (x : Value) : Prop :=
  ∃ H' o' ps, run G N f [pv w, x] H = some (.bool (step S e).isSome, H') ∧ Fr H o H' o' ps ∧ (-1 : Int) ∉ ps ∧ ∀ S', step S e = some S' → RefR H' o' w S'
section
variable {G : Oracle} {H : Heap} {o : Owner} {q : Int} {n w : Nat} {S : StV} {e : EvV} {x : Value}
theorem rtakes_runs (h : RefR H o w S) (he : EvR H o q x e) (hms : S.maps.length ≤ 65000) (hcs : S.calls.length ≤ 65000) (hb : ∀ m ∈ S.maps, m.length < 4194303) (hk : e.kind = 2) (hn : 4194304 < n) : RStepR G H o w S e (n + 8) 39 x := by
  obtain ⟨sm, ox, l, ty, hp⟩ := h
  obtain ⟨s, rfl, hs⟩ := he
  obtain ⟨a, m', es⟩ := hs.isSlice
  have hll : l.length ≤ 65000 := by rw [hp.calls] at hcs; simpa using hcs
  unfold RStepR
  rw [F39_eq]
  have b1 := boxE e es H
  obtain ⟨H1, e1⟩ : ∃ z, z = H.new ⟨evCells e s, 31, 1, false⟩ := ⟨_, rfl⟩
  rw [← e1] at b1
  have x1 : Ext H H1 := by rw [e1]; exact (Ext.refl H).new _
  have f1 := x1.fr o (-9)
  obtain ⟨o1, eo1⟩ : ∃ z, z = o.from H.length (-9) := ⟨_, rfl⟩
  rw [← eo1] at f1
  have g1 : H1.get H.length = some ⟨evCells e s, 31, 1, false⟩ := by rw [e1]; exact get_new
  have p1 := hp.fr f1
  have E1 : ld1 (.pointer (some ⟨H.length, 1, none⟩)) H1 = some (cv e.thread) := ld1_pv H.length 1 H1 g1
  have W1 : ld1 (.pointer (some ⟨w, 1, none⟩)) H1 = some ox := ld1_pv w 1 H1 p1.blk
  have rf := find_runs (G := G) (n := n + 6) p1.ops (by omega) e.thread (by omega)
  have hkx := oidx_kidx hp.calls e.thread
  unfold step
  rw [if_neg (by omega), if_neg (by omega), if_pos hk, hkx]
  cases hx : oidx l e.thread with
  | none =>
    rw [hx] at rf
    refine ⟨H1, o1, [], ?_, f1, by simp, fun S' h' => by cases h'⟩
    simp -implicitDefEqProofs [F39, b1, fad_pv, nck_pv, E1, W1, rf, lss_int, pick_bool]
  | some j =>
    rw [hx] at rf
    simp only at rf
    obtain ⟨z, hz, hzt⟩ := oidx_some hx
    have hzm : z ∈ l := List.mem_of_getElem? hz
    have hj : j < l.length := (List.getElem?_eq_some_iff.1 hz).1
    have hcall : S.calls[j]? = some (z.thread, z.call) := by rw [hp.calls, List.getElem?_map, hz]; rfl
    simp only [hcall]
    have hj0 : ¬ ((j : Int) < 0) := by omega
    obtain ⟨ib, b, hix, hbk, hbo, hc, hro, hbl, hst⟩ := p1.ops.idx hz
    have T5 : ∀ Hx, Ext H1 Hx → ld1 (.pointer (some ⟨ib, 8 * j + 5, none⟩)) Hx = some (.bool z.call.took.isSome) := fun Hx hx => by rw [ld1_pv _ _ _ (hx.get hbk)]; exact hc 5 (by omega)
    have T1 : ∀ Hx, Ext H1 Hx → ld1 (.pointer (some ⟨ib, 8 * j + 1, none⟩)) Hx = some (cv z.call.no) := fun Hx hx => by rw [ld1_pv _ _ _ (hx.get hbk)]; exact hc 1 (by omega)
    have TO : ∀ Hx, Ext H1 Hx → ldn 3 (.pointer (some ⟨ib, 8 * j + 2, none⟩)) Hx = some (opA z.call.op) := fun Hx hx => by
      have := cells_sub (a := 8 * j) hc (k := 2) (m := 3) (by omega)
      simp only [ldn, ldCells, hx.get hbk]
      rw [if_pos (by omega), this]; rfl
    have hW := fun (Hx : Heap) (hx : Ext H1 Hx) => (ld1_pv w 1 Hx (hx.get p1.blk) : ld1 (.pointer (some ⟨w, 1, none⟩)) Hx = some ox)
    have hE2 := fun (Hx : Heap) (hx : Ext H1 Hx) => (ld1_pv H.length 2 Hx (hx.get g1) : ld1 (.pointer (some ⟨H.length, 2, none⟩)) Hx = some (cv e.no))
    have xr := Ext.refl H1
    cases c2 : z.call.took.isSome with
    | true =>
      rw [if_pos (.inr (.inl rfl))]
      refine ⟨H1, o1, [], ?_, f1, by simp, fun S' h' => by cases h'⟩
      rw [c2] at T5
      simp -implicitDefEqProofs [F39, b1, fad_pv, nck_pv, E1, hW H1 xr, rf, lss_int, hj0, hix, T5 H1 xr, pick_bool]
    | false =>
    rw [c2] at T5
    obtain ⟨H2, r2, x2⟩ := change_runs (G := G) (n := n + 6) z.call.op H1
    obtain ⟨o2, eo2⟩ : ∃ z, z = o1.from H1.length (-9) := ⟨_, rfl⟩
    have f2 := x2.fr o1 (-9)
    rw [← eo2] at f2
    have f12 := f1.tr f2
    have evO := eqV_opA z.call.op
    by_cases c3 : 1 ≤ z.call.op.kind ∧ z.call.op.kind ≤ 3
    case neg =>
      have ht : trn S.now z.call.op = false := by
        cases hh : trn S.now z.call.op with
        | false => rfl
        | true => exact absurd (trn_kind hh) c3
      rw [if_pos (.inr (.inr ht))]
      refine ⟨H2, o2, [], ?_, f12, by simp, fun S' h' => by cases h'⟩
      have e0 : (decide (1 ≤ z.call.op.kind) && decide (z.call.op.kind ≤ 3)) = false := by
        cases hh : (decide (1 ≤ z.call.op.kind) && decide (z.call.op.kind ≤ 3)) with
        | false => rfl
        | true => exact absurd (by simpa using hh) c3
      rw [e0] at r2
      simp -implicitDefEqProofs [F39, b1, fad_pv, nck_pv, E1, hW H1 xr, rf, lss_int, hj0, hix, T5 H1 xr, TO H1 xr, evO, r2, not_bool, pick_bool]
    have e0 : (decide (1 ≤ z.call.op.kind) && decide (z.call.op.kind ≤ 3)) = true := by simpa using c3
    rw [e0] at r2
    by_cases c1 : z.call.no = e.no
    case neg =>
      rw [if_pos (.inl c1)]
      refine ⟨H2, o2, [], ?_, f12, by simp, fun S' h' => by cases h'⟩
      have c1' : ¬ e.no = z.call.no := fun h => c1 h.symm
      simp -implicitDefEqProofs [F39, b1, fad_pv, nck_pv, E1, hW H1 xr, rf, lss_int, hj0, hix, T5 H1 xr, TO H1 xr, evO, r2, not_bool, pick_bool, hW H2 x2, hE2 H2 x2, T1 H2 x2, neq_int, c1']
    have nq : abin Try.prog .neq 3 (cv e.no) (cv z.call.no) = some (.bool false) := by rw [neq_int, c1]; simp
    have ob := opBox z.call.op H2
    obtain ⟨H4, e4⟩ : ∃ t, t = H2.new ⟨[cv z.call.op.kind, cv z.call.op.key, cv z.call.op.value], 23, 1, false⟩ := ⟨_, rfl⟩
    rw [← e4] at ob
    have x24 : Ext H2 H4 := by rw [e4]; exact (Ext.refl H2).new _
    have x4 : Ext H1 H4 := x2.trans x24
    have g4 : H4.get H2.length = some ⟨[cv z.call.op.kind, cv z.call.op.key, cv z.call.op.value], 23, 1, false⟩ := by rw [e4]; exact get_new
    obtain ⟨o4, eo4⟩ : ∃ z, z = o2.from H2.length (-9) := ⟨_, rfl⟩
    have f4 := x24.fr o2 (-9)
    rw [← eo4] at f4
    have o4b : o4 H2.length = -9 := by rw [eo4, from_ge (Nat.le_refl _)]
    have f14 := f12.tr f4
    have p4 := (p1.fr f2).fr f4
    have hl4 : H2.length < H4.length := get_lt g4
    have V0 : ld1 (pv w) H4 = some sm.v := ld1_pv w 0 H4 p4.blk
    have P0 := ld1_pv H2.length 0 H4 g4
    have P1 := ld1_pv H2.length 1 H4 g4
    have hnm := now_mem p4.ne
    have hnl := hb _ hnm
    have hget := RGet_runs (G := G) (n := n + 5) p4.map (by omega) z.call.op.key (by omega)
    -- turned or not
    cases c4 : trn S.now z.call.op with
    | false =>
      rw [if_pos (.inr (.inr rfl))]
      refine ⟨H4, o4, [], ?_, f14, by simp, fun S' h' => by cases h'⟩
      unfold trn at c4
      by_cases k1 : z.call.op.kind = 1
      · have hh : mhas S.now z.call.op.key = true := by simpa [k1] using c4
        rw [hh] at hget
        simp -implicitDefEqProofs [F39, b1, fad_pv, nck_pv, E1, hW H1 xr, rf, lss_int, hj0, hix, T5 H1 xr, TO H1 xr, evO, r2, not_bool, pick_bool, hW H2 x2, hE2 H2 x2, T1 H2 x2, nq, TO H2 x2, newBlk, ob, V0, P0, P1, hget, ext_i, eql_int, k1]
      · by_cases k3 : z.call.op.kind = 3
        · have hh : mhas S.now z.call.op.key = false := by simpa [k3] using c4
          rw [hh] at hget
          simp -implicitDefEqProofs [F39, b1, fad_pv, nck_pv, E1, hW H1 xr, rf, lss_int, hj0, hix, T5 H1 xr, TO H1 xr, evO, r2, not_bool, pick_bool, hW H2 x2, hE2 H2 x2, T1 H2 x2, nq, TO H2 x2, newBlk, ob, V0, P0, P1, hget, ext_i, eql_int, k3]
        · exfalso
          have : z.call.op.kind = 2 := by omega
          simp [this] at c4
    | true =>
    rw [if_neg (by rintro (h | h | h); exact h c1; cases h; cases h)]
    -- that it took place, the map ahead of it
    obtain ⟨ib4, b4, hix4, hbk4, hbo4, hc4, hro4, hbl4, hst4⟩ := p4.ops.idx hz
    have eib : ib = ib4 := by
      have := (hix H4).symm.trans (hix4 H4)
      simpa using this
    subst eib
    obtain ⟨z1, ez1⟩ : ∃ z1 : OC, z1 = { z with call := { z.call with took := some S.now } } := ⟨_, rfl⟩
    obtain ⟨z2, ez2⟩ : ∃ z2 : OC, z2 = { z1 with ah := sm } := ⟨_, rfl⟩
    have st5 := st_1 ib (8 * j + 5) (.bool true) H4 hbk4 hro4 (by omega) rfl rfl rfl
    have op5 := hst4 5 (.bool true) z1 (by omega) (by rw [ez1]; rfl)
    obtain ⟨H5, e5⟩ : ∃ t, t = H4.put ib { b4 with cells := b4.cells.set (8 * j + 5) (.bool true) } := ⟨_, rfl⟩
    rw [← e5] at st5 op5
    have f5 : Fr H4 o4 H5 o4 [-41] := by rw [e5]; exact (Fr.refl _ _ _).put fun _ => by simp [hbo4]
    obtain ⟨ib5, b5, hix5, hbk5, hbo5, hc5, hro5, hbl5, hst5⟩ := op5.idx (j := j) (z := z1) (by rw [List.getElem?_set_self hj])
    have eib : ib = ib5 := by
      have := (hix H4).symm.trans (hix5 H4)
      simpa using this
    subst eib
    have st6 := st_1 ib (8 * j + 6) sm.v H5 hbk5 hro5 (by omega) rfl rfl rfl
    have op6 := hst5 6 sm.v z2 (by omega) (by rw [ez2]; rfl)
    rw [List.set_set] at op6
    obtain ⟨H6, e6⟩ : ∃ t, t = H5.put ib { b5 with cells := b5.cells.set (8 * j + 6) sm.v } := ⟨_, rfl⟩
    rw [← e6] at st6 op6
    have f6 : Fr H5 o4 H6 o4 [-41] := by rw [e6]; exact (Fr.refl _ _ _).put fun _ => by simp [hbo5]
    have f46 := f5.tr f6
    have blk5 : H5.get w = some ⟨[sm.v, ox, cv S.inv], ty, 1, false⟩ := by rw [f5.same w (get_lt p4.blk) (by rw [p4.ow]; simp)]; exact p4.blk
    have blk6 : H6.get w = some ⟨[sm.v, ox, cv S.inv], ty, 1, false⟩ := by rw [f46.same w (get_lt p4.blk) (by rw [p4.ow]; simp)]; exact p4.blk
    have g6 : H6.get H2.length = some ⟨[cv z.call.op.kind, cv z.call.op.key, cv z.call.op.value], 23, 1, false⟩ := by rw [f46.same _ hl4 (by rw [o4b]; simp)]; exact g4
    have map6 := p4.map.fr f46 (by simp)
    have W15 : ld1 (.pointer (some ⟨w, 1, none⟩)) H5 = some ox := ld1_pv w 1 H5 blk5
    have W14 : ld1 (.pointer (some ⟨w, 1, none⟩)) H4 = some ox := ld1_pv w 1 H4 p4.blk
    have W05 : ld1 (pv w) H5 = some sm.v := ld1_pv w 0 H5 blk5
    have W06 : ld1 (pv w) H6 = some sm.v := ld1_pv w 0 H6 blk6
    have L6 := ldO g6
    obtain ⟨y, H7, r7, s7, x7⟩ := rAfter_runs (G := G) (n := n + 4) map6 (by omega) z.call.op (by omega)
    obtain ⟨o7, eo7⟩ : ∃ z, z = o4.from H6.length (-44) := ⟨_, rfl⟩
    have f7 := x7.fr o4 (-44)
    have s7' : SlR H7 (o4.from H6.length (-44)) (-44) y (aftL S.now z.call.op) := slr_of s7 fun i hi _ => from_ge hi
    rw [← eo7] at f7 s7'
    have easc := hp.asc _ hnm
    rw [show aftL S.now z.call.op = aft S.now z.call.op by unfold aftL; rw [if_pos easc]] at s7'
    obtain ⟨new, enew⟩ : ∃ t, t = aft S.now z.call.op := ⟨_, rfl⟩
    rw [← enew] at s7'
    obtain ⟨yv, rfl⟩ := slSV s7'
    have blk7 : H7.get w = some ⟨[sm.v, ox, cv S.inv], ty, 1, false⟩ := x7.get blk6
    have ow7 : o7 w = -40 := by rw [f7.own w (get_lt blk6)]; exact p4.ow
    have st8 := st_1 w 0 yv.v H7 blk7 rfl (by simp) rfl rfl rfl
    simp only [List.set_cons_zero] at st8
    obtain ⟨H8, e8⟩ : ∃ t, t = H7.put w ⟨[yv.v, ox, cv S.inv], ty, 1, false⟩ := ⟨_, rfl⟩
    rw [← e8] at st8
    have f8 : Fr H7 o7 H8 o7 [-40] := by rw [e8]; exact (Fr.refl _ _ _).put fun _ => by simp [ow7]
    have blk8 : H8.get w = some ⟨[yv.v, ox, cv S.inv], ty, 1, false⟩ := by rw [e8]; exact get_put blk7
    obtain ⟨l2, el2⟩ : ∃ t, t = l.set j z2 := ⟨_, rfl⟩
    rw [← el2] at op6
    have op8 := (op6.fr f7 (by simp)).fr f8 (by simp)
    have hll2 : l2.length = l.length := by rw [el2]; simp
    have f48 : Fr H4 o4 H8 o7 [-41, -40] := ((f46.wk (by simp)).tr0 f7).tr (f8.wk (by simp))
    have zc2 : z2.call = { z.call with took := some S.now } := by rw [ez2, ez1]
    have zu2 : z2.uid = z.uid := by rw [ez2, ez1]
    have zt2 : z2.thread = z.thread := by rw [ez2, ez1]
    have zw2 : z2.ws = z.ws := by rw [ez2, ez1]
    have za2 : z2.ah = sm := by rw [ez2]
    -- each of them, as it is now
    have each8 : ∀ y ∈ l2, OpR H8 o7 S.maps y := fun y hy => by
      rw [el2] at hy
      rcases List.mem_or_eq_of_mem_set hy with hy | rfl
      · exact (p4.each y hy).fr f48 (by simp; omega) (by simp)
      · have hz8 := (p4.each z hzm).fr f48 (by simp; omega) (by simp)
        refine ⟨?_, fun a ha => ?_, by rw [zc2]; exact hz8.kind⟩
        · rw [zu2, zw2, zc2]; exact hz8.was
        · rw [zc2] at ha
          cases ha
          rw [za2]
          exact ⟨p4.map.fr f48 (by simp), easc, by omega⟩
    have nd2 : l2.map (fun z => z.uid) = l.map fun z => z.uid := by
      rw [el2, List.map_set, set_same]
      rw [List.getElem?_map, hz]; simp [zu2]
    have half0 : HalfR H8 o7 ox l2 S.maps new 0 := ⟨l2, op8, rfl, fun k y' y hy' hy => by
      rw [hy'] at hy
      cases hy
      have := each8 y' (List.mem_of_getElem? hy')
      rw [if_neg (by omega)]
      exact ⟨rfl, rfl, rfl, this.was, fun a ha => (this.took a ha).1⟩⟩
    have frm2 : ∀ y ∈ l2, y.call.frm ≤ S.maps.length := fun y hy => by
      rw [el2] at hy
      rcases List.mem_or_eq_of_mem_set hy with hy | rfl
      · exact hp.frm y hy
      · rw [zc2]; exact hp.frm z hzm
    obtain ⟨H9, o9, ps, hit, b9, ow9, m9, ⟨li, h91, h92, h93⟩, f9, q9⟩ := half_all (G := G) (n := n) blk8 (by exact ow7) (s7'.fr f8 (by simp)) half0 (by omega) (by omega) (by rw [nd2]; exact hp.nd) frm2 (by omega) (evA e s) (.bool false) (pv H.length) (cv j) (.bool false) (pv H2.length) (.bool (mhas S.now z.call.op.key)) (.bool false)
    have fA := (f14.wk (qs := [-41, -40]) (by simp)).tr f48
    refine ⟨H9, o9, [-41, -40] ++ ps, ?_, fA.trans f9 (fun _ h => List.mem_append_left _ h) (fun _ h => List.mem_append_right _ h), by simp only [List.mem_append]; rintro (h | h); simp at h; exact q9 h, fun S' h' => ?_⟩
    · have evS : eqV sm.v sm.v = true := by simp [Go.Proofs.YtgakioiplkehgaaA.Am.eqV, eqV1]
      have evX := p4.ops.eqV
      unfold trn at c4
      by_cases k1 : z.call.op.kind = 1
      · have hh : mhas S.now z.call.op.key = false := by simpa [k1] using c4
        rw [hh] at hget hit
        simp -implicitDefEqProofs [F39, b1, fad_pv, nck_pv, E1, hW H1 xr, rf, lss_int, hj0, hix, T5 H1 xr, TO H1 xr, evO, r2, not_bool, pick_bool, hW H2 x2, hE2 H2 x2, T1 H2 x2, nq, TO H2 x2, newBlk, ob, V0, P0, P1, hget, ext_i, eql_int, k1, W14, st5, W15, W05, st6, W06, L6, r7, st8, evS, evX, hit, F39_j1_v, F39_j1v]
      · by_cases k3 : z.call.op.kind = 3
        · have hh : mhas S.now z.call.op.key = true := by simpa [k3] using c4
          rw [hh] at hget hit
          simp -implicitDefEqProofs [F39, b1, fad_pv, nck_pv, E1, hW H1 xr, rf, lss_int, hj0, hix, T5 H1 xr, TO H1 xr, evO, r2, not_bool, pick_bool, hW H2 x2, hE2 H2 x2, T1 H2 x2, nq, TO H2 x2, newBlk, ob, V0, P0, P1, hget, ext_i, eql_int, k3, W14, st5, W15, W05, st6, W06, L6, r7, st8, evS, evX, hit, F39_j1_v, F39_j1v]
        · simp -implicitDefEqProofs [F39, b1, fad_pv, nck_pv, E1, hW H1 xr, rf, lss_int, hj0, hix, T5 H1 xr, TO H1 xr, evO, r2, not_bool, pick_bool, hW H2 x2, hE2 H2 x2, T1 H2 x2, nq, TO H2 x2, newBlk, ob, V0, P0, P1, hget, ext_i, eql_int, k1, k3, W14, st5, W15, W05, st6, W06, L6, r7, st8, evS, evX, hit, F39_j1_v, F39_j1v]
    · cases h'
      rw [← enew]
      have back : ∀ (k : Nat) (y' : OC), li[k]? = some y' → ∃ y, l2[k]? = some y := fun k y' hy' => by
        have := (List.getElem?_eq_some_iff.1 hy').1
        exact ⟨_, List.getElem?_eq_getElem (by omega)⟩
      have same : ∀ {β : Type} (g : OC → β), (∀ y' y : OC, y'.thread = y.thread → y'.uid = y.uid → y'.call = y.call → g y' = g y) → li.map g = l2.map g := fun g hg => by
        apply List.ext_getElem?
        intro k
        rw [List.getElem?_map, List.getElem?_map]
        cases hk' : li[k]? with
        | none =>
          have : l2[k]? = none := by rw [List.getElem?_eq_none_iff] at hk' ⊢; omega
          rw [this]
        | some y' =>
          obtain ⟨y, hy⟩ := back k y' hk'
          obtain ⟨u1, u2, u3, _⟩ := h93 k y' y hk' hy
          rw [hy]
          simp [hg y' y u1 u2 u3]
      refine ⟨yv, ox, li, ty, ⟨b9, ow9, by rw [now_app]; exact m9, h91, fun y' hy' => ?_, ?_, ?_, by simp, fun m hm => ?_, fun y' hy' => ?_⟩⟩
      · obtain ⟨k, hk'⟩ := List.getElem?_of_mem hy'
        obtain ⟨y, hy⟩ := back k y' hk'
        obtain ⟨u1, u2, u3, u4, u5⟩ := h93 k y' y hk' hy
        have hkl : k < l2.length := (List.getElem?_eq_some_iff.1 hy).1
        rw [if_pos hkl] at u4
        have hy8 := each8 y (List.mem_of_getElem? hy)
        exact ⟨by rw [u2, u3]; exact u4, fun a ha => by rw [u3] at ha; exact ⟨u5 a ha, (hy8.took a ha).2⟩, by rw [u3]; exact hy8.kind⟩
      · rw [same (fun z => (z.thread, z.call)) fun y' y h1 _ h3 => by simp [h1, h3], el2, List.map_set, hp.calls, zt2, zc2]
      · rw [same (fun z => z.uid) fun y' y _ h2 _ => h2, nd2]; exact hp.nd
      · rcases List.mem_append.1 hm with hm | hm
        · exact hp.asc m hm
        · rw [List.mem_singleton.1 hm, enew]
          unfold aft
          repeat' split
          all_goals first | exact easc | exact asc_mdel easc _ | exact asc_mput easc _ _
      · obtain ⟨k, hk'⟩ := List.getElem?_of_mem hy'
        obtain ⟨y, hy⟩ := back k y' hk'
        obtain ⟨u1, u2, u3, _⟩ := h93 k y' y hk' hy
        have := frm2 y (List.mem_of_getElem? hy)
        rw [u3, List.length_append]; omega
end
end Go.Proofs.Ytgakioiplkehgaa.Fun
namespace Go.Proofs.Ytgakioiplkehgaa.Fun
open Go Go.RowKit Go.Proofs.YtgakioiplkehgaaA.Am
set_option linter.unusedVariables false
set_option linter.unusedSimpArgs false
set_option linter.unnecessarySimpa false
set_option maxRecDepth 10000
theorem uid_new : ∀ l : List OC, ∃ u : Nat, ∀ z ∈ l, z.uid ≠ u := fun l => by
  have h : ∀ l : List OC, ∃ u : Nat, ∀ z ∈ l, z.uid < u := by
    intro l
    induction l with
    | nil => exact ⟨0, fun z hz => by cases hz⟩
    | cons x l ih =>
      obtain ⟨u, hu⟩ := ih
      refine ⟨u + x.uid + 1, fun z hz => ?_⟩
      rcases List.mem_cons.1 hz with rfl | hz
      · omega
      · have := hu z hz; omega
  obtain ⟨u, hu⟩ := h l
  exact ⟨u, fun z hz => Nat.ne_of_lt (hu z hz)⟩
theorem own_new (o : Owner) : ∀ n : Nat, ∃ q : Int, 0 ≤ q ∧ ∀ i, i < n → o i < q
  | 0 => ⟨0, by omega, fun i hi => by omega⟩
  | n + 1 => by
    obtain ⟨q, h0, h⟩ := own_new o n
    by_cases hq : o n < q
    · exact ⟨q, h0, fun i hi => by
        rcases Nat.lt_or_ge i n with g | g
        · exact h i g
        · have : i = n := by omega
          subst this; exact hq⟩
    · exact ⟨o n + 1, by omega, fun i hi => by
        rcases Nat.lt_or_ge i n with g | g
        · have := h i g; omega
        · have : i = n := by omega
          subst this; omega⟩
theorem OpL.relabel {H : Heap} {o o' : Owner} {q q' : Int} {x : Value} {l : List OC} (h : OpL H o q x l) (k : ∀ i, i < H.length → o i = q → o' i = q') : OpL H o' q' x l := by
  rcases h with h | ⟨i, cap, rest, ty, h1, h2, h3, h4⟩
  · exact .inl h
  · exact .inr ⟨i, cap, rest, ty, h1, h2, h3, k i (get_lt h2) h4⟩
theorem abOC (t no : Int) (op : OpV) (ws : SV) (u f : Nat) : abuild Try.prog 78 [(0, cv t), (1, cv no), (2, opA op), (5, ws.v)] = some (.agg (ocells ⟨t, u, ⟨op, no, f, none⟩, ⟨none, 0, 0⟩, ws⟩).toArray) := by kernel_rfl
theorem bsO0 (H : Heap) : abuildSlice Try.prog 59 0 [] H = some (.slice (some ⟨H.length, 0, none⟩) 0 0, H.new ⟨[], 78, 8, false⟩) := by kernel_rfl
theorem bsOC (t no : Int) (op : OpV) (ws : SV) (u f : Nat) (H : Heap) : abuildSlice Try.prog 59 1 [(0, .agg (ocells ⟨t, u, ⟨op, no, f, none⟩, ⟨none, 0, 0⟩, ws⟩).toArray)] H = some (.slice (some ⟨H.length, 0, none⟩) 1 1, H.new ⟨ocells ⟨t, u, ⟨op, no, f, none⟩, ⟨none, 0, 0⟩, ws⟩, 78, 8, false⟩) := by kernel_rfl
section
variable {G : Oracle} {H : Heap} {o : Owner} {q : Int} {n w : Nat} {S : StV} {e : EvV} {x : Value}
theorem meets_runs (h : RefR H o w S) (he : EvR H o q x e) (hl : e.res.list.length ≤ 4194303) (hms : S.maps.length ≤ 65000) (hcs : S.calls.length ≤ 65000) (hb : ∀ m ∈ S.maps, m.length < 4194303) (hn : 4194304 < n) : RStepR G H o w S e (n + 9) 21 x := by
  obtain ⟨sm, ox, l, ty, hp⟩ := h
  obtain ⟨s, rfl, hs⟩ := he
  obtain ⟨a, m', es⟩ := hs.isSlice
  have hll : l.length ≤ 65000 := by rw [hp.calls] at hcs; simpa using hcs
  unfold RStepR
  rw [F21_eq]
  have b1 := boxE e es H
  obtain ⟨H1, e1⟩ : ∃ z, z = H.new ⟨evCells e s, 31, 1, false⟩ := ⟨_, rfl⟩
  rw [← e1] at b1
  have x1 : Ext H H1 := by rw [e1]; exact (Ext.refl H).new _
  have f1 := x1.fr o (-9)
  obtain ⟨o1, eo1⟩ : ∃ z, z = o.from H.length (-9) := ⟨_, rfl⟩
  rw [← eo1] at f1
  have g1 : H1.get H.length = some ⟨evCells e s, 31, 1, false⟩ := by rw [e1]; exact get_new
  have p1 := hp.fr f1
  have hs1 := hs.fr f1 (by simp)
  have E0 : ld1 (pv H.length) H1 = some (cv e.kind) := ld1_pv H.length 0 H1 g1
  have E1 : ld1 (.pointer (some ⟨H.length, 1, none⟩)) H1 = some (cv e.thread) := ld1_pv H.length 1 H1 g1
  have E2 : ld1 (.pointer (some ⟨H.length, 2, none⟩)) H1 = some (cv e.no) := ld1_pv H.length 2 H1 g1
  have E3 : ld1 (.pointer (some ⟨H.length, 3, none⟩)) H1 = some (cv e.op.kind) := ld1_pv H.length 3 H1 g1
  have E11 : ld1 (.pointer (some ⟨H.length, 11, none⟩)) H1 = some s := ld1_pv H.length 11 H1 g1
  have W0 : ld1 (pv w) H1 = some sm.v := ld1_pv w 0 H1 p1.blk
  have W1 : ld1 (.pointer (some ⟨w, 1, none⟩)) H1 = some ox := ld1_pv w 1 H1 p1.blk
  have W2 : ld1 (.pointer (some ⟨w, 2, none⟩)) H1 = some (cv S.inv) := ld1_pv w 2 H1 p1.blk
  have rf := find_runs (G := G) (n := n + 7) p1.ops (by omega) e.thread (by omega)
  have hkx := oidx_kidx hp.calls e.thread
  have olen := p1.ops.len
  have mlen : slen sm.v = some (cv S.now.length) := p1.map.len
  by_cases k4 : e.kind = 4
  · -- Loaded
    unfold step
    rw [if_pos k4]
    have rmap := RMapG_runs (G := G) (n := n + 7) hs1 (by omega) (by omega)
    by_cases hc : Asc (keysOf e.res.list) ∧ S.calls = [] ∧ S.now = []
    case neg =>
      rw [if_neg hc]
      refine ⟨H1, o1, [], ?_, f1, by simp, fun S' h' => by cases h'⟩
      by_cases c1n : 0 < l.length
      · have c1 : (l.length : Int) > 0 := by omega
        simp -implicitDefEqProofs [-gt_iff_lt, F21, b1, fad_pv, nck_pv, E0, E1, W1, rf, k4, eql_int, olen, gtr_int, c1, c1n, pick_bool]
      have c1 : ¬ (l.length : Int) > 0 := by omega
      by_cases c2n : 0 < S.now.length
      · have c2 : (S.now.length : Int) > 0 := by omega
        simp -implicitDefEqProofs [-gt_iff_lt, F21, b1, fad_pv, nck_pv, E0, E1, W1, W0, rf, k4, eql_int, olen, mlen, gtr_int, c1, c1n, c2, c2n, pick_bool]
      have c2 : ¬ (S.now.length : Int) > 0 := by omega
      have l0 : l = [] := List.length_eq_zero_iff.1 (by omega)
      have n0 : S.now = [] := List.length_eq_zero_iff.1 (by omega)
      have hna : ¬ Asc (keysOf e.res.list) := fun h => hc ⟨h, by rw [hp.calls, l0]; rfl, n0⟩
      rw [decide_eq_false hna] at rmap
      simp -implicitDefEqProofs [-gt_iff_lt, F21, b1, fad_pv, nck_pv, E0, E1, E11, W1, W0, rf, k4, eql_int, olen, mlen, gtr_int, c1, c1n, c2, c2n, rmap, not_bool, pick_bool]
    rw [if_pos hc]
    obtain ⟨hasc, hcl, hnow⟩ := hc
    have l0 : l = [] := by rw [hp.calls] at hcl; simpa using hcl
    have c1 : ¬ (l.length : Int) > 0 := by rw [l0]; simp
    have c1n : ¬ 0 < l.length := by rw [l0]; simp
    have c2n : ¬ 0 < S.now.length := by rw [hnow]; simp
    have c2 : ¬ (S.now.length : Int) > 0 := by rw [hnow]; simp
    rw [decide_eq_true hasc] at rmap
    have b0 := bsP0 H1
    obtain ⟨y, H2, r2, s2, x2⟩ := copy_runs hs1 (by omega)
    obtain ⟨o2, eo2⟩ : ∃ z, z = o1.from H1.length (-44) := ⟨_, rfl⟩
    have f2 := x2.fr o1 (-44)
    have s2' : SlR H2 (o1.from H1.length (-44)) (-44) y e.res.list := slr_of s2.r fun i hi _ => from_ge hi
    rw [← eo2] at f2 s2'
    have p2 := p1.fr f2
    obtain ⟨yv, rfl⟩ := slSV s2'
    have st := st_1 w 0 yv.v H2 p2.blk rfl (by simp) rfl rfl rfl
    simp only [List.set_cons_zero] at st
    obtain ⟨H3, e3⟩ : ∃ t, t = H2.put w ⟨[yv.v, ox, cv S.inv], ty, 1, false⟩ := ⟨_, rfl⟩
    rw [← e3] at st
    have f3 : Fr H2 o2 H3 o2 [-40] := by rw [e3]; exact (Fr.refl _ _ _).put fun _ => by simp [p2.ow]
    have E11' : ld1 (.pointer (some ⟨H.length, 11, none⟩)) (H1.new ⟨[], 26, 2, false⟩) = some s := by
      have g : (H1.new ⟨[], 26, 2, false⟩).get H.length = some ⟨evCells e s, 31, 1, false⟩ := by rw [get_new_lt (get_lt g1)]; exact g1
      exact ld1_pv H.length 11 _ g
    refine ⟨H3, o2, [-40], ?_, ((f1.tr f2).wk (by simp)).tr f3, by simp, fun S' h' => ?_⟩
    · simp -implicitDefEqProofs [-gt_iff_lt, F21, b1, fad_pv, nck_pv, E0, E1, E11, W1, W0, rf, k4, eql_int, olen, mlen, gtr_int, c1, c1n, c2, c2n, rmap, not_bool, pick_bool, b0, E11', r2, st]
    · cases h'
      refine ⟨yv, ox, l, ty, ⟨by rw [e3]; exact get_put p2.blk, p2.ow, by rw [now_app]; exact s2'.fr f3 (by simp), p2.ops.fr f3 (by simp), fun z hz => (by rw [l0] at hz; cases hz), hp.calls, hp.nd, by simp, fun m hm => ?_, fun z hz => (by rw [l0] at hz; cases hz)⟩⟩
      rcases List.mem_append.1 hm with hm | hm
      · exact hp.asc m hm
      · rw [List.mem_singleton.1 hm]; exact hasc
  by_cases k1 : e.kind = 1
  · -- Invoked
    unfold step
    rw [if_neg k4, if_pos k1, hkx]
    have bad : (e.thread < 0 ∨ (oidx l e.thread).isSome = true ∨ e.op.kind < 1 ∨ e.op.kind > 10 ∨ e.no ≠ S.inv) → F21 (run G (n + 8)) (n + 8) (pv w) (evA e s) H = some (.bool false, H1) := by
      intro hbad
      by_cases c1 : e.thread < 0
      · simp -implicitDefEqProofs [F21, b1, fad_pv, nck_pv, E0, E1, W1, rf, k1, eql_int, lss_int, c1, pick_bool]
      cases hx : oidx l e.thread with
      | some j =>
        rw [hx] at rf
        simp only at rf
        have hj : (j : Int) ≥ 0 := by omega
        simp -implicitDefEqProofs [-ge_iff_le, F21, b1, fad_pv, nck_pv, E0, E1, W1, rf, k1, eql_int, lss_int, geq_int, c1, hj, pick_bool]
      | none =>
        rw [hx] at rf hbad
        by_cases c2 : e.op.kind < 1
        · simp -implicitDefEqProofs [-ge_iff_le, F21, b1, fad_pv, nck_pv, E0, E1, E3, W1, rf, k1, eql_int, lss_int, geq_int, c1, c2, pick_bool]
        by_cases c3 : e.op.kind > 10
        · simp -implicitDefEqProofs [-ge_iff_le, -gt_iff_lt, F21, b1, fad_pv, nck_pv, E0, E1, E3, W1, rf, k1, eql_int, lss_int, geq_int, gtr_int, c1, c2, c3, pick_bool]
        · have c4 : ¬ e.no = S.inv := by
            rcases hbad with g | g | g | g | g
            · exact absurd g c1
            · simp at g
            · exact absurd g c2
            · exact absurd g c3
            · exact g
          simp -implicitDefEqProofs [-ge_iff_le, -gt_iff_lt, F21, b1, fad_pv, nck_pv, E0, E1, E2, E3, W1, W2, rf, k1, eql_int, lss_int, geq_int, gtr_int, neq_int, c1, c2, c3, c4, pick_bool]
    by_cases hc : e.thread < 0 ∨ (oidx l e.thread).isSome = true ∨ e.op.kind < 1 ∨ e.op.kind > 10 ∨ e.no ≠ S.inv
    · rw [if_pos hc]
      exact ⟨H1, o1, [], bad hc, f1, by simp, fun S' h' => by cases h'⟩
    rw [if_neg hc]
    have c1 : ¬ e.thread < 0 := fun h => hc (.inl h)
    have kx : oidx l e.thread = none := by
      cases hx : oidx l e.thread with
      | none => rfl
      | some j => exact absurd (.inr (.inl (by rw [hx]; rfl))) hc
    have c2 : ¬ e.op.kind < 1 := fun h => hc (.inr (.inr (.inl h)))
    have c3 : ¬ e.op.kind > 10 := fun h => hc (.inr (.inr (.inr (.inl h))))
    have c4 : e.no = S.inv := Classical.byContradiction fun h => hc (.inr (.inr (.inr (.inr h))))
    rw [kx] at rf
    have nq : abin Try.prog .neq 3 (cv e.no) (cv S.inv) = some (.bool false) := by rw [neq_int, c4]; simp
    obtain ⟨iv, eiv⟩ : ∃ iv, iv = IntKind.i64.wrap (S.inv + 1) := ⟨_, rfl⟩
    have st2 := st_1 w 2 (cv iv) H1 p1.blk rfl (by simp) rfl rfl rfl
    obtain ⟨H2, e2⟩ : ∃ z, z = H1.put w ⟨[sm.v, ox, cv iv], ty, 1, false⟩ := ⟨_, rfl⟩
    have st2' : stS 1 (.pointer (some ⟨w, 2, none⟩)) (cv iv) H1 = some (undef, H2) := by rw [e2]; exact st2
    have f2 : Fr H1 o1 H2 o1 [-40] := by rw [e2]; exact (Fr.refl _ _ _).put fun _ => by simp [p1.ow]
    have blk2 : H2.get w = some ⟨[sm.v, ox, cv iv], ty, 1, false⟩ := by rw [e2]; exact get_put p1.blk
    have hwl := get_lt hp.blk
    have g2 : H2.get H.length = some ⟨evCells e s, 31, 1, false⟩ := by rw [e2, get_put_ne (by omega)]; exact g1
    have l2 : H2.length = H1.length := by rw [e2]; simp [Heap.put]
    -- the maps since then
    obtain ⟨u, hu⟩ := uid_new l
    obtain ⟨ws, ews⟩ : ∃ ws : SV, ws = ⟨some ⟨H2.length, 0, none⟩, 1, 1⟩ := ⟨_, rfl⟩
    have b3 := bsW1 sm H2
    have s3 := Sl.made H2 o1 (-1000 - (u : Int)) 27 [sm.v]
    simp only [List.length_singleton] at s3
    obtain ⟨H3, e3⟩ : ∃ t, t = H2.new ⟨[sm.v], 27, 1, false⟩ := ⟨_, rfl⟩
    have f3 : Fr H2 o1 H3 (o1.up H2.length (-1000 - (u : Int))) [] := by rw [e3]; exact (Fr.refl _ _ _).new _ _
    rw [← e3] at b3 s3
    obtain ⟨o3, eo3⟩ : ∃ z, z = o1.up H2.length (-1000 - (u : Int)) := ⟨_, rfl⟩
    rw [← eo3] at f3 s3
    have b3' : abuildSlice Try.prog 76 1 [(0, sm.v)] H2 = some (ws.v, H3) := by rw [ews]; exact b3
    have s3' : Sl H3 o3 (-1000 - (u : Int)) ws.v [sm.v] (some H2.length) := by rw [ews]; exact s3
    -- the operation
    obtain ⟨z, ez⟩ : ∃ z : OC, z = ⟨e.thread, u, ⟨e.op, e.no, S.maps.length - 1, none⟩, ⟨none, 0, 0⟩, ws⟩ := ⟨_, rfl⟩
    have ab := abOC e.thread e.no e.op ws u (S.maps.length - 1)
    have b4 := bsOC e.thread e.no e.op ws u (S.maps.length - 1) H3
    rw [← ez] at ab b4
    obtain ⟨H4, e4⟩ : ∃ t, t = H3.new ⟨ocells z, 78, 8, false⟩ := ⟨_, rfl⟩
    have f4 : Fr H3 o3 H4 (o3.up H3.length (-9)) [] := by rw [e4]; exact (Fr.refl _ _ _).new _ _
    obtain ⟨o4, eo4⟩ : ∃ t, t = o3.up H3.length (-9) := ⟨_, rfl⟩
    rw [← eo4] at f4
    have g4 : H4.get H3.length = some ⟨ocells z, 78, 8, false⟩ := by rw [e4]; exact get_new
    rw [← e4] at b4
    have f24 : Fr H1 o1 H4 o4 [-40] := (f2.tr0 f3).tr0 f4
    have op4 := p1.ops.fr f24 (by simp)
    have src4 : Src8 H4 (.slice (some ⟨H3.length, 0, none⟩) 1 1) [z] := ⟨_, _, rfl, by simp [srcCells, ldCells, g4, ocs]⟩
    obtain ⟨ox', H5, o5, ra, op5, f5, -⟩ := op4.app 78 src4 (by simp; omega)
    have blk4 : H4.get w = some ⟨[sm.v, ox, cv iv], ty, 1, false⟩ := by rw [f4.same w (by have := f3.size; rw [l2] at this; have := get_lt p1.blk; omega) (by simp), f3.same w (get_lt blk2) (by simp)]; exact blk2
    have ow4 : o4 w = -40 := by rw [f24.own w (get_lt p1.blk)]; exact p1.ow
    have blk5 : H5.get w = some ⟨[sm.v, ox, cv iv], ty, 1, false⟩ := by rw [f5.same w (get_lt blk4) (by rw [ow4]; simp)]; exact blk4
    have ow5 : o5 w = -40 := by rw [f5.own w (get_lt blk4)]; exact ow4
    obtain ⟨ao, co, eox⟩ := op5.isSlice
    have st6 := st_1 w 1 ox' H5 blk5 rfl (by simp) (by rw [eox]; rfl) (by rw [eox]; rfl) (by rw [eox]; rfl)
    simp only [List.set_cons_succ, List.set_cons_zero] at st6
    obtain ⟨H6, e6⟩ : ∃ t, t = H5.put w ⟨[sm.v, ox', cv iv], ty, 1, false⟩ := ⟨_, rfl⟩
    rw [← e6] at st6
    have f6 : Fr H5 o5 H6 o5 [-40] := by rw [e6]; exact (Fr.refl _ _ _).put fun _ => by simp [ow5]
    have f46 : Fr H4 o4 H6 o5 [-41, -40] := (f5.wk (by simp)).tr (f6.wk (by simp))
    have fA : Fr H1 o1 H6 o5 [-41, -40] := (f24.wk (by simp)).tr f46
    -- what is read
    have evs : eqV ox ox = true := p1.ops.eqV
    have L2 : ∀ Hx, Hx.get w = some ⟨[sm.v, ox, cv iv], ty, 1, false⟩ → ld1 (pv w) Hx = some sm.v ∧ ld1 (.pointer (some ⟨w, 1, none⟩)) Hx = some ox := fun Hx hx => ⟨ld1_pv w 0 Hx hx, ld1_pv w 1 Hx hx⟩
    have blk3 : H3.get w = some ⟨[sm.v, ox, cv iv], ty, 1, false⟩ := by rw [f3.same w (get_lt blk2) (by simp)]; exact blk2
    obtain ⟨A2, B2⟩ := L2 H2 blk2
    obtain ⟨A3, B3⟩ := L2 H3 blk3
    obtain ⟨A4, B4⟩ := L2 H4 blk4
    have g3 : H3.get H.length = some ⟨evCells e s, 31, 1, false⟩ := by rw [f3.same _ (get_lt g2) (by simp)]; exact g2
    have D : ∀ Hx, Hx.get H.length = some ⟨evCells e s, 31, 1, false⟩ → ld1 (.pointer (some ⟨H.length, 1, none⟩)) Hx = some (cv e.thread) ∧ ld1 (.pointer (some ⟨H.length, 2, none⟩)) Hx = some (cv e.no) ∧ ldn 3 (.pointer (some ⟨H.length, 3, none⟩)) Hx = some (opA e.op) := fun Hx hx => ⟨ld1_pv _ 1 Hx hx, ld1_pv _ 2 Hx hx, ldE3 hx⟩
    obtain ⟨Q1, Q2, Q3⟩ := D H2 g2
    obtain ⟨R1, R2, R3⟩ := D H3 g3
    have evO := eqV_opA e.op
    refine ⟨H6, o5, [-41, -40], ?_, (f1.wk (by simp)).tr fA, by simp, fun S' h' => ?_⟩
    · simp -implicitDefEqProofs [-ge_iff_le, -gt_iff_lt, F21, b1, fad_pv, nck_pv, E0, E1, E2, E3, W1, W2, rf, k1, eql_int, lss_int, geq_int, gtr_int, nq, c1, c2, c3, pick_bool, add_int, ← eiv, st2', A2, B2, A3, B3, A4, B4, Q1, Q2, Q3, R1, R2, R3, b3', ab, b4, ra, st6, evs, evO]
    · cases h'
      have now' : StV.now ⟨S.maps, S.calls ++ [(e.thread, ⟨e.op, e.no, S.maps.length - 1, none⟩)], IntKind.i64.wrap (S.inv + 1)⟩ = S.now := rfl
      refine ⟨sm, ox', l ++ [z], ty, ⟨by rw [e6, ← eiv]; exact get_put blk5, ow5, by rw [now']; exact p1.map.fr fA (by simp), op5.fr f6 (by simp), fun y hy => ?_, ?_, ?_, hp.ne, hp.asc, fun y hy => ?_⟩⟩
      · rcases List.mem_append.1 hy with hy | hy
        · exact (p1.each y hy).fr fA (by simp; omega) (by simp)
        · rw [List.mem_singleton.1 hy, ez]
          refine ⟨⟨[sm.v], _, (s3'.fr f4 (by simp)).fr f46 (by simp; omega), ?_, fun i v m hv hm => ?_⟩, fun a ha => (by cases ha), by simp only; omega⟩
          · have : 0 < S.maps.length := List.length_pos_iff.2 hp.ne
            simp; omega
          · have hi : i = 0 := by
              have := (List.getElem?_eq_some_iff.1 hv).1
              simp at this; omega
            subst hi
            have e1' : sm.v = v := by simpa using hv
            have e2' : S.now = m := by
              simp only [List.getElem?_drop, Nat.add_zero] at hm
              unfold StV.now
              rw [List.getD_eq_getElem?_getD, hm]; rfl
            rw [← e1', ← e2']
            exact p1.map.fr fA (by simp)
      · rw [List.map_append, hp.calls, ez]; rfl
      · rw [List.map_append, List.nodup_append]
        refine ⟨hp.nd, by simp, fun a ha b hb' => ?_⟩
        obtain ⟨y, hy, rfl⟩ := List.mem_map.1 ha
        have : b = u := by rw [ez] at hb'; simpa using hb'
        subst this
        exact hu y hy
      · rcases List.mem_append.1 hy with hy | hy
        · exact hp.frm y hy
        · rw [List.mem_singleton.1 hy, ez]; simp
  have evN : ¬ e.kind = 4 := k4
  by_cases k2 : e.kind = 2
  · -- Took
    have L13 := ldE13 g1
    obtain ⟨H', o', ps, r, f, q1, hS⟩ := rtakes_runs (G := G) (n := n) (w := w) (S := S) (e := e) (x := evA e s) ⟨sm, ox, l, ty, p1⟩ ⟨s, rfl, hs1⟩ hms hcs hb k2 (by omega)
    refine ⟨H', o', ps, ?_, (f1.wk (by simp)).tr f, q1, hS⟩
    simp -implicitDefEqProofs [F21, b1, fad_pv, nck_pv, E0, E1, W1, rf, k2, eql_int, L13, r]
  by_cases k3 : e.kind = 3
  case neg =>
    unfold step
    rw [if_neg k4, if_neg k1, if_neg k2, if_neg k3]
    refine ⟨H1, o1, [], ?_, f1, by simp, fun S' h' => by cases h'⟩
    simp -implicitDefEqProofs [F21, b1, fad_pv, nck_pv, E0, E1, W1, rf, k1, k2, k3, k4, eql_int]
  -- Returned
  unfold step
  rw [if_neg k4, if_neg k1, if_neg k2, if_pos k3, hkx]
  cases hx : oidx l e.thread with
  | none =>
    rw [hx] at rf
    refine ⟨H1, o1, [], ?_, f1, by simp, fun S' h' => by cases h'⟩
    simp -implicitDefEqProofs [F21, b1, fad_pv, nck_pv, E0, E1, W1, rf, k3, eql_int, lss_int, pick_bool]
  | some j =>
    rw [hx] at rf
    simp only at rf
    obtain ⟨z, hz, hzt⟩ := oidx_some hx
    have hzm : z ∈ l := List.mem_of_getElem? hz
    have hj : j < l.length := (List.getElem?_eq_some_iff.1 hz).1
    have hcall : S.calls[j]? = some (z.thread, z.call) := by rw [hp.calls, List.getElem?_map, hz]; rfl
    simp only [hcall]
    have hj0 : ¬ ((j : Int) < 0) := by omega
    obtain ⟨ib, b, hix, hbk, hbo, hc, hro, hbl, hst⟩ := p1.ops.idx hz
    have T1 : ld1 (.pointer (some ⟨ib, 8 * j + 1, none⟩)) H1 = some (cv z.call.no) := by rw [ld1_pv _ _ _ hbk]; exact hc 1 (by omega)
    have T8 : ldn 8 (.pointer (some ⟨ib, 8 * j, none⟩)) H1 = some (.agg (ocells z).toArray) := by
      have := cells_sub (a := 8 * j) hc (k := 0) (m := 8) (by omega)
      rw [Nat.add_zero] at this
      simp only [ldn, ldCells, hbk]
      rw [if_pos (by omega), this]; rfl
    by_cases c1 : z.call.no = e.no
    case neg =>
      rw [if_pos (.inl c1)]
      refine ⟨H1, o1, [], ?_, f1, by simp, fun S' h' => by cases h'⟩
      have c1' : ¬ e.no = z.call.no := fun h => c1 h.symm
      simp -implicitDefEqProofs [F21, b1, fad_pv, nck_pv, E0, E1, E2, W1, rf, k3, eql_int, lss_int, hj0, hix, T1, neq_int, c1', pick_bool]
    have nq : abin Try.prog .neq 3 (cv e.no) (cv z.call.no) = some (.bool false) := by rw [neq_int, c1]; simp
    obtain ⟨H2, r2, x2⟩ := told_runs (G := G) (n := n + 2) (p1.each z hzm) hp.asc (fun m hm => by have := hb m hm; omega) (by omega) hs1 (by omega) (by omega)
    obtain ⟨o2, eo2⟩ : ∃ z, z = o1.from H1.length (-9) := ⟨_, rfl⟩
    have f2 := x2.fr o1 (-9)
    rw [← eo2] at f2
    have f12 := f1.tr f2
    have L6 := ldE6 g1
    cases c2 : may S.maps z.call e.res with
    | false =>
      rw [if_pos (.inr rfl)]
      refine ⟨H2, o2, [], ?_, f12, by simp, fun S' h' => by cases h'⟩
      rw [c2] at r2
      simp -implicitDefEqProofs [F21, b1, fad_pv, nck_pv, E0, E1, E2, W1, rf, k3, eql_int, lss_int, hj0, hix, T1, nq, pick_bool, L6, T8, r2, not_bool]
    | true =>
    rw [if_neg (by rintro (h | h); exact h c1; cases h)]
    rw [c2] at r2
    have p2 := p1.fr f2
    obtain ⟨q', h0, hq⟩ := own_new o2 H2.length
    have b3 := bsO0 H2
    obtain ⟨H3, e3⟩ : ∃ t, t = H2.new ⟨[], 78, 8, false⟩ := ⟨_, rfl⟩
    have f3 : Fr H2 o2 H3 (o2.up H2.length q') [] := by rw [e3]; exact (Fr.refl _ _ _).new _ _
    have n3 : OpL H3 (o2.up H2.length q') q' (.slice (some ⟨H2.length, 0, none⟩) 0 0) [] := .inr ⟨H2.length, 0, [], 78, rfl, by rw [e3]; exact get_new, rfl, up_self⟩
    rw [← e3] at b3
    obtain ⟨o3, eo3⟩ : ∃ z, z = o2.up H2.length q' := ⟨_, rfl⟩
    rw [← eo3] at f3 n3
    have p3 := p2.fr f3
    obtain ⟨y1, cut1, src1⟩ := p3.ops.cutTo (n := j) (by omega)
    obtain ⟨x4, H4, o4, ra4, op4, f4, -⟩ := n3.app 78 src1 (by simp; omega)
    have ops4 := p3.ops.fr f4 (by simp; omega)
    obtain ⟨y2, cut2, src2⟩ := ops4.cutFrom (n := j + 1) (by omega)
    obtain ⟨x5, H5, o5, ra5, op5, f5, -⟩ := op4.app 78 src2 (by simp; omega)
    have f25 : Fr H2 o2 H5 o5 [q'] := ((f3.wk (by simp)).tr f4).tr f5
    obtain ⟨o6, eo6⟩ : ∃ o6 : Owner, o6 = fun i => if o5 i = q' then -41 else o5 i := ⟨_, rfl⟩
    have f26 : Fr H2 o2 H5 o6 [] := ⟨fun i hi hn => f25.slot i hi (by have := hq i hi; simp; omega), fun i hi => by
      have := hq i hi
      rw [eo6]
      simp only
      rw [f25.own i hi, if_neg (by omega)], f25.size⟩
    have opN : OpL H5 o6 (-41) x5 ([] ++ l.take j ++ l.drop (j + 1)) := op5.relabel fun i _ hi => by rw [eo6]; simp [hi]
    have p5 := p2.fr f26
    obtain ⟨ao, co, eox⟩ := opN.isSlice
    have st6 := st_1 w 1 x5 H5 p5.blk rfl (by simp) (by rw [eox]; rfl) (by rw [eox]; rfl) (by rw [eox]; rfl)
    simp only [List.set_cons_succ, List.set_cons_zero] at st6
    obtain ⟨H6, e6⟩ : ∃ t, t = H5.put w ⟨[sm.v, x5, cv S.inv], ty, 1, false⟩ := ⟨_, rfl⟩
    rw [← e6] at st6
    have f6 : Fr H5 o6 H6 o6 [-40] := by rw [e6]; exact (Fr.refl _ _ _).put fun _ => by simp [p5.ow]
    have f3w : H4.get w = H3.get w := f4.same w (get_lt p3.blk) (by rw [p3.ow]; simp; omega)
    have B3 : ld1 (.pointer (some ⟨w, 1, none⟩)) H3 = some ox := ld1_pv w 1 H3 p3.blk
    have B4 : ld1 (.pointer (some ⟨w, 1, none⟩)) H4 = some ox := ld1_pv w 1 H4 (b := ⟨[sm.v, ox, cv S.inv], ty, 1, false⟩) (by rw [f3w]; exact p3.blk)
    have hw : IntKind.i64.wrap ((j : Int) + 1) = ((j + 1 : Nat) : Int) := by rw [w64 (by omega)]; omega
    refine ⟨H6, o6, [-40], ?_, ((f12.tr f26).wk (by simp)).tr f6, by simp, fun S' h' => ?_⟩
    · simp -implicitDefEqProofs [-Int.natCast_add, F21, b1, fad_pv, nck_pv, E0, E1, E2, W1, rf, k3, eql_int, lss_int, hj0, hix, T1, nq, pick_bool, L6, T8, r2, not_bool, b3, B3, cut1, ra4, B4, add_int, hw, cut2, ra5, st6]
    · cases h'
      have el : [] ++ l.take j ++ l.drop (j + 1) = l.eraseIdx j := by rw [List.eraseIdx_eq_take_drop_succ]; rfl
      rw [el] at opN
      have sub := List.eraseIdx_sublist l j
      refine ⟨sm, x5, l.eraseIdx j, ty, ⟨by rw [e6]; exact get_put p5.blk, p5.ow, p5.map.fr f6 (by simp), opN.fr f6 (by simp), fun y hy => (p5.each y (sub.subset hy)).fr f6 (by simp; omega) (by simp), ?_, hp.nd.sublist (sub.map _), hp.ne, hp.asc, fun y hy => hp.frm y (sub.subset hy)⟩⟩
      rw [map_eraseIdx', hp.calls]
end
end Go.Proofs.Ytgakioiplkehgaa.Fun
namespace Go.Proofs.Ytgakioiplkehgaa.Fun
open Go Go.RowKit Go.Proofs.YtgakioiplkehgaaA.Am
set_option linter.unusedVariables false
set_option linter.unusedSimpArgs false
set_option linter.unnecessarySimpa false
set_option maxRecDepth 10000
theorem step_calls {S S' : StV} {e : EvV} (h : step S e = some S') : S'.calls.length ≤ S.calls.length + 1 := by
  unfold step at h
  repeat' split at h
  all_goals first | (cases h; done) | (cases h; simp; done) | (cases h; exact Nat.le_trans (List.eraseIdx_sublist _ _).length_le (Nat.le_succ _))
theorem abWd : abuild Try.prog 61 [] = some (.agg #[.slice none 0 0, .slice none 0 0, cv 0]) := by kernel_rfl
theorem bxWd (H : Heap) : boxS 61 (.agg #[.slice none 0 0, .slice none 0 0, cv 0]) H = some (pv H.length, H.new ⟨[.slice none 0 0, .slice none 0 0, cv 0], 61, 1, false⟩) := by
  simp [boxS, Value.cells, oneCell, newBlk]
section
variable {G : Oracle} {H : Heap} {o : Owner} {q q2 : Int} {n : Nat} {x : Value} {L : List EvV} {B : Nat}
theorem rcheck_runs (h : EvsR H o q q2 x L) (hL : L.length ≤ 1000) (hB : ∀ e ∈ L, e.res.list.length ≤ B) (hB2 : B + 2000 ≤ 4194303) (hn : 4194304 < n) :
    ∃ H', run G (n + 10) 10 [x] H = some (cv (check L st0 0), H') ∧ Ext H H' := by
  rw [F10_eq]
  have h0 : EvsR H o0 (-1) (-1) x L := h.relabel (fun i _ _ => rfl) (fun i _ _ => rfl)
  have hxl := h.len
  have bx := bxWd H
  obtain ⟨H1, e1⟩ : ∃ z, z = H.new ⟨[.slice none 0 0, .slice none 0 0, cv 0], 61, 1, false⟩ := ⟨_, rfl⟩
  have f1 : Fr H o0 H1 (Owner.up o0 H.length (-40)) [] := by rw [e1]; exact (Fr.refl _ _ _).new _ _
  have g1 : H1.get H.length = some ⟨[.slice none 0 0, .slice none 0 0, cv 0], 61, 1, false⟩ := by rw [e1]; exact get_new
  rw [← e1] at bx
  obtain ⟨o1, eo1⟩ : ∃ z, z = Owner.up o0 H.length (-40) := ⟨_, rfl⟩
  have ow1 : o1 H.length = -40 := by rw [eo1, up_self]
  rw [← eo1] at f1
  have h1 : RefR H1 o1 H.length st0 := ⟨⟨none, 0, 0⟩, .slice none 0 0, [], 61, ⟨g1, ow1, .nil, .nil, fun z hz => (by cases hz), rfl, .nil, by simp [st0], fun m hm => (by
    have : m = [] := by simpa [st0] using hm
    subst this; exact List.Pairwise.nil), fun z hz => (by cases hz)⟩⟩
  obtain ⟨r', hit, hne, x', d4, d10, d19, hr⟩ := iter_go (step := F10_b0 (run G (n + 9)) (n + 9))
    (Q := fun m vs H' => ∃ (i : Nat) (S : StV) (o' : Owner) (ps : List Int) (d10 d19 : Value), i ≤ L.length ∧ m = L.length - i ∧ vs = [x, cv 0, cv i, d10, pv H.length, d19] ∧ RefR H' o' H.length S ∧ Fr H o0 H' o' ps ∧ (-1 : Int) ∉ ps ∧
      check L st0 0 = check (L.drop i) S i ∧ (∀ m ∈ S.maps, m.length ≤ B + i) ∧ S.maps.length ≤ i + 1 ∧ S.calls.length ≤ i)
    (R := fun r' => Ext H r'.2.2 ∧ ∃ (d4 d10 d19 : Value), ((r'.1 = .exit 0 ∧ r'.2.1 = [x, cv 0, d4, d10, pv H.length, d19] ∧ check L st0 0 = -1) ∨
      (r'.1 = .ret ∧ ∃ j : Nat, r'.2.1 = [x, cv j, d4, d10, pv H.length, d19] ∧ check L st0 0 = j)))
    (by
      rintro m vs H' ⟨i, S, o', ps, d10, d19, hi, rfl, rfl, hS, f, hps, hc, hK, hM, hC⟩
      have extH : Ext H H' := Ext.of f fun i _ hh => hps hh
      by_cases hlt : i < L.length
      · have h1 : (i : Int) < L.length := by omega
        have hLi : L[i]? = some L[i] := List.getElem?_eq_getElem hlt
        obtain ⟨ptr, s, hix, hs, hld⟩ := (h0.fr f hps hps).idx hLi
        obtain ⟨H'', o'', qs, r1, f1', hqs, hS'⟩ := meets_runs (G := G) (n := n) (x := evA L[i] s) hS ⟨s, rfl, hs⟩ (by have := hB _ (List.getElem_mem hlt); omega) (by omega) (by omega) (fun m hm => by have := hK m hm; omega) hn
        have hw : IntKind.i64.wrap ((i : Int) + 1) = ((i + 1 : Nat) : Int) := by rw [w64 (by omega)]; omega
        have hdrop : L.drop i = L[i] :: L.drop (i + 1) := List.drop_eq_getElem_cons hlt
        have hd : check (L[i] :: L.drop (i + 1)) S i = (match step S L[i] with | none => (i : Int) | some S' => check (L.drop (i + 1)) S' (i + 1)) := rfl
        rw [hdrop, hd] at hc
        have fH2 : Fr H o0 H'' o'' (ps ++ qs) := f.trans f1' (fun _ h => List.mem_append_left _ h) (fun _ h => List.mem_append_right _ h)
        have hpq : (-1 : Int) ∉ ps ++ qs := by simp only [List.mem_append]; rintro (h | h); exact hps h; exact hqs h
        cases hst : step S L[i] with
        | none =>
          rw [hst] at r1 hc
          refine .inr ⟨(.ret, [x, cv i, cv i, .bool true, pv H.length, .bool true], H''), ?_, by simp, Ext.of fH2 (fun i _ hh => hpq hh), _, _, _, .inr ⟨rfl, i, rfl, hc⟩⟩
          simp -implicitDefEqProofs [F10_b0_v, F10_b0v, hxl, lss_int, h1, hix, hld, r1, not_bool, fin]
        | some S' =>
          rw [hst] at r1 hc
          obtain ⟨k1, k2⟩ := step_fits hst hK (by have := hB _ (List.getElem_mem hlt); omega)
          have k3 := step_calls hst
          refine .inl ⟨_, H'', L.length - (i + 1), by omega, ?_, i + 1, S', o'', ps ++ qs, .bool true, .bool false, by omega, rfl, rfl, hS' S' hst, fH2, hpq, hc, fun m hm => by have := k1 m hm; omega, by omega, by omega⟩
          simp -implicitDefEqProofs [-Int.natCast_add, F10_b0_v, F10_b0v, hxl, lss_int, h1, hix, hld, r1, not_bool, add_int, hw, fin]
      · have h1 : ¬ (i : Int) < L.length := by omega
        rw [List.drop_eq_nil_of_le (by omega)] at hc
        refine .inr ⟨(.exit 0, [x, cv 0, cv i, .bool false, pv H.length, d19], H'), ?_, by simp, extH, _, _, _, .inl ⟨rfl, rfl, hc⟩⟩
        simp -implicitDefEqProofs [F10_b0_v, F10_b0v, hxl, lss_int, h1, fin])
    (L.length - 0) [x, cv 0, cv (0 : Nat), undef, pv H.length, undef] H1 ⟨0, st0, o1, [], _, _, Nat.zero_le _, rfl, rfl, h1, f1, by simp, rfl, fun m hm => by
      have : m = [] := by simpa [st0] using hm
      subst this; simp, by simp [st0], by simp [st0]⟩ (n + 9) (by omega)
  obtain ⟨e, vs, H'⟩ := r'
  simp only at hr x'
  simp only [Int.natCast_zero] at hit
  refine ⟨H', ?_, x'⟩
  rcases hr with ⟨rfl, rfl, hc⟩ | ⟨rfl, j, rfl, hc⟩
  · rw [hc]
    simp -implicitDefEqProofs [F10, abWd, bx, hit, F10_j1_v, F10_j1v]
  · rw [hc]
    simp -implicitDefEqProofs [F10, abWd, bx, hit, kBlk, kSeq, up, resK, resL, tupK]
    rfl
end
end Go.Proofs.Ytgakioiplkehgaa.Fun
