
/- What a log is checked by, in plain Lean; slices of single values that grow. -/
import Derived.Test.YtgakioiplkehgaaLinIn
namespace Go.Proofs.Ytgakioiplkehgaa.Fun
open Go Go.RowKit Go.Proofs.YtgakioiplkehgaaA.Am
set_option linter.unusedVariables false
set_option linter.unusedSimpArgs false
set_option linter.unnecessarySimpa false
set_option maxRecDepth 10000
structure CallV where
  op : OpV
  no : Int
  frm : Nat
  took : Option PL
structure StV where
  maps : List PL
  calls : List (Int × CallV)
  inv : Int
structure EvV where
  kind : Int
  thread : Int
  no : Int
  op : OpV
  res : ResV
  pick : Int
/-- The map as it is. -/
def StV.now (S : StV) : PL := S.maps.getD (S.maps.length - 1) []
def may (maps : List PL) (c : CallV) (r : ResV) : Bool :=
  match c.took with
  | some a => resEq r (ans a c.op)
  | none => if decide (c.op.kind ≤ 3) && resEq r (resW 8) then true else if decide (c.op.kind > 4) && resEq r (resW 9) then true else (maps.drop c.frm).any fun m => !trn m c.op && resEq r (ans m c.op)
def kidx {α : Type} (cs : List (Int × α)) (t : Int) : Option Nat := cs.findIdx? fun e => e.1 == t
def step (S : StV) (e : EvV) : Option StV :=
  if e.kind = 4 then
    if Asc (keysOf e.res.list) ∧ S.calls = [] ∧ S.now = [] then some { S with maps := S.maps ++ [e.res.list] } else none
  else if e.kind = 1 then
    if e.thread < 0 ∨ (kidx S.calls e.thread).isSome = true ∨ e.op.kind < 1 ∨ e.op.kind > 10 ∨ e.no ≠ S.inv then none
    else some { S with calls := S.calls ++ [(e.thread, ⟨e.op, e.no, S.maps.length - 1, none⟩)], inv := IntKind.i64.wrap (S.inv + 1) }
  else if e.kind = 2 then
    match kidx S.calls e.thread with
    | none => none
    | some j => match S.calls[j]? with
      | none => none
      | some x => if x.2.no ≠ e.no ∨ x.2.took.isSome = true ∨ trn S.now x.2.op = false then none
        else some { S with maps := S.maps ++ [aft S.now x.2.op], calls := S.calls.set j (x.1, { x.2 with took := some S.now }) }
  else if e.kind = 3 then
    match kidx S.calls e.thread with
    | none => none
    | some j => match S.calls[j]? with
      | none => none
      | some x => if x.2.no ≠ e.no ∨ may S.maps x.2 e.res = false then none else some { S with calls := S.calls.eraseIdx j }
  else none
def check : List EvV → StV → Nat → Int
  | [], _, _ => -1
  | e :: L, S, i => match step S e with
    | none => i
    | some S' => check L S' (i + 1)
def st0 : StV := ⟨[[]], [], 0⟩
theorem kidx_map {α β : Type} (f : α → β) (cs : List (Int × α)) (t : Int) : kidx (cs.map fun e => (e.1, f e.2)) t = kidx cs t := by
  unfold kidx
  rw [List.findIdx?_map]
  rfl
theorem kidx_some {α : Type} {cs : List (Int × α)} {t : Int} {j : Nat} (h : kidx cs t = some j) : ∃ x, cs[j]? = some x ∧ x.1 = t ∧ cs.find? (fun e => e.1 == t) = some x := by
  unfold kidx at h
  obtain ⟨hj, h1, h2⟩ := List.findIdx?_eq_some_iff_getElem.1 h
  refine ⟨cs[j], List.getElem?_eq_getElem hj, by simpa using h1, ?_⟩
  rw [List.find?_eq_some_iff_getElem]
  exact ⟨h1, j, hj, rfl, fun k hk => by simpa using h2 k hk⟩
theorem kidx_none {α : Type} {cs : List (Int × α)} {t : Int} (h : kidx cs t = none) : cs.find? (fun e => e.1 == t) = none := by
  unfold kidx at h
  rw [List.findIdx?_eq_none_iff] at h
  rw [List.find?_eq_none]
  intro x hx
  simpa using h x hx
/-! single values appended -/
section
variable {H : Heap} {o : Owner} {p : Int} {s : Value} {cs : List Value} {b : Option Nat}
theorem _root_.Go.Proofs.YtgakioiplkehgaaA.Am.Sl.app1 {j : Nat} {x : Value} {t tE : TypeId} {by_ : Nat} (h : Sl H o p s cs b) (hj : H.get j = some ⟨[x], t, 1, false⟩) (h1 : oneCell x = true) (hb : by_ ≤ 4096) (hl : cs.length < 4294967296) :
    ∃ s' H' o' b', appS tE 1 by_ s (.slice (some ⟨j, 0, none⟩) 1 1) H = some (s', H') ∧ Sl H' o' p s' (cs ++ [x]) b' ∧ Fr H o H' o' [p] ∧ ∀ i, i < H.length → o' i = o i := by
  have hld : ldCells H j 0 1 = some [x] := by simp [ldCells, hj]
  cases b with
  | none =>
    obtain ⟨rfl, rfl⟩ := h
    refine ⟨.slice (some ⟨H.length, 0, none⟩) 1 1, H.new ⟨[x], tE, 1, false⟩, o.up H.length p, some H.length, ?_, ⟨1, [], tE, rfl, get_new, rfl, rfl, up_self⟩, (Fr.refl _ _ _).new _ _, fun i hi => up_ne (by omega)⟩
    simp [appS, srcCells, hld, hb]
  | some q =>
    obtain ⟨cap, rest, ty, rfl, h2, h3, h5, h6⟩ := h
    have hql := get_lt h2
    by_cases hfit : cs.length + 1 ≤ cap
    · refine ⟨.slice (some ⟨q, 0, none⟩) (cs.length + 1) cap, H.put q ⟨(cs ++ [x]) ++ rest.drop 1, ty, 1, false⟩, o, some q, ?_, ⟨cap, rest.drop 1, ty, by simp, get_put h2, by simp; omega, ?_, h6⟩, (Fr.refl _ _ _).put fun _ => by simp [h6], fun i hi => rfl⟩
      · have hst : stCells H q (0 + cs.length * 1) [x] = some (H.put q ⟨(cs ++ [x]) ++ rest.drop 1, ty, 1, false⟩) := by
          have e := splice_app [x] cs rest (by simp; omega)
          simp only [List.length_singleton] at e
          simp only [stCells, h2]
          rw [if_pos (by simp [h1]; omega)]
          rw [show 0 + cs.length * 1 = cs.length by omega, e]
        simp only [appS, srcCells, hld, Nat.one_mul, Option.map_some]
        rw [if_neg (by omega)]
        simp only [hld, Option.map_some]
        rw [if_pos hfit, if_neg (by omega)]
        simp only [h2, if_true, hst, Option.map_some]
      · rw [List.all_eq_true] at h5 ⊢
        exact fun y hy => h5 y (List.mem_of_mem_drop hy)
    · refine ⟨.slice (some ⟨H.length, 0, none⟩) (cs.length + 1) (cs.length + 1), (H.kill q).new ⟨cs ++ [x], tE, 1, false⟩, o.up H.length p, some H.length, ?_, ⟨cs.length + 1, [], tE, by simp, ?_, by simp, rfl, up_self⟩, ?_, fun i hi => up_ne (by omega)⟩
      · have hold : ldCells H q 0 (cs.length * 1) = some cs := by
          simp only [ldCells, h2]
          rw [if_pos (by simp)]
          simp
        simp only [appS, srcCells, Nat.one_mul]
        rw [if_neg (by omega)]
        simp only [hld, Option.map_some]
        rw [if_neg hfit, if_pos (by simp; omega)]
        simp only [h2]
        rw [if_pos (by simp; omega)]
        simp only [hold]
      · have := get_new (H := H.kill q) (c := ⟨cs ++ [x], tE, 1, false⟩)
        rw [kill_len] at this
        simpa using this
      · have := ((Fr.refl H o [p]).kill (i := q) (fun _ => by simp [h6])).new ⟨cs ++ [x], tE, 1, false⟩ p
        rw [kill_len] at this
        exact this
end
end Go.Proofs.Ytgakioiplkehgaa.Fun
