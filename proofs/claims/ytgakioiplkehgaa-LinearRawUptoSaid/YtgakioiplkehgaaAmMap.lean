/-
Maps whose keys are whole numbers; slices with three bounds; slices cleared.
-/
import Derived.Test.YtgakioiplkehgaaAmApp
import Derived.Test.YtgakioiplkehgaaAmOth
namespace Go.Proofs.YtgakioiplkehgaaA.Am
open Go.RowKit (Below)
variable {P : Program} {μ : Mu} {H H' : Heap} {w : World} {B : Nat}

theorem aslice3_sound {t : TypeId} {x x' v m m' : Value} {lo hi lo' hi' : Option Value} (hS : Sim P μ H w B) (hx : VR μ x x')
    (hlo : VRo μ lo lo') (hhi : VRo μ hi hi') (hm : VR μ m m') (h : aslice3 P H t x lo hi m = some v) :
    ∃ v', (Instr.sliceAt t x' lo' hi' (some m')).run P w = .ok v' w ∧ VR μ v v' := by
  unfold aslice3 at h
  split at h
  case h_2 => cases h
  rename_i a len cap hv k mx
  split at h
  case isFalse => cases h
  rename_i hb
  obtain rfl := hm.int
  obtain ⟨hlc, a', cap', rfl, hnil, hcc⟩ := hx.slice_any
  have hx0 : VR μ (.slice a 0 mx.toNat) (.slice a' 0 mx.toNat) := by
    cases a with
    | none =>
      obtain ⟨rfl, rfl, e2⟩ := hx.slice_nil
      cases e2
      have : mx.toNat = 0 := by omega
      rw [this]; exact .plain _ rfl
    | some ad =>
      rcases hx.slice_some with ⟨i, off, c2, lc, rfl, hl2, g1, g2, g3, e2⟩ | ⟨i, off, a2, rfl, rfl, rfl, e2⟩
      · cases e2
        refine .slice i off 0 mx.toNat mx.toNat lc hl2 (by omega) (by omega) ?_
        have : mx.toNat * lc.es ≤ cap' * lc.es := Nat.mul_le_mul_right _ (by omega)
        omega
      · cases e2
        have : mx.toNat = 0 := by omega
        rw [this]; exact .slice0 _ _ _
  obtain ⟨v', hr, hv'⟩ := aslice_sound (P := P) (w := w) hS hx0 hlo hhi h
  refine ⟨v', ?_, hv'⟩
  rw [← hr]
  -- the same bounds
  unfold aslice at h
  split at h
  case h_2 => cases h
  rename_i elem a0 len0 cap0 hu e0
  cases e0
  cases hz : szOf P elem with
  | none => rw [hz] at h; cases h
  | some size =>
    rw [hz] at h
    simp only at h
    split at h
    case h_2 => cases h
    rename_i h' l hh hl
    split at h
    case isFalse => cases h
    rename_i hbb
    have hbd := bounds_run (P := P) (w := w) hlo hhi hh hl hbb (Nat.le_refl _)
    have hb3 : (Instr.sliceBounds true len cap' lo' hi' (some (.int k mx))).run P w = .ok (l.toNat, h'.toNat, mx.toNat) w := by
      have hm1 := bound_run (P := P) (k := k) (n := mx) (y := cap') (c := .slice3Acap) hb.1 (by omega) w
      rcases hhi with ⟨e, _⟩ | ⟨c, c', e, rfl, r⟩
      · cases e
      cases e
      obtain ⟨k1, rfl⟩ := intOf_some r hh
      have h1 := bound_run (P := P) (k := k1) (y := mx.toNat) (c := .slice3B) hbb.1 (by omega) w
      rcases hlo with ⟨rfl, rfl⟩ | ⟨c2, c2', rfl, rfl, r2⟩
      · simp only [boundOf] at hl; cases hl
        simp [Instr.sliceBounds, hm1, h1]
      · obtain ⟨k2, rfl⟩ := intOf_some r2 hl
        have h2 := bound_run (P := P) (k := k2) (n := l) (y := h'.toNat) (c := .slice3C) hbb.2.2.1 (by omega) w
        simp [Instr.sliceBounds, hm1, h1, h2]
    simp [Instr.sliceAt, Instr.slice, run_underlying hu, hbd, hb3, run_sz hz]

theorem aclear_sound {argTypes : Array TypeId} {ty : TypeId} {x x' v : Value} (hS : Sim P μ H w B) (hx : VR μ x x') (h : aclear P argTypes x H = some (v, H')) :
    Told P μ v H' w B ((Builtin.clear_ argTypes ty #[x']).run P w) := by
  have hu0 : VR μ undef (.tuple #[]) := VRs.tuple (c := #[]) (c' := #[]) .nil
  unfold aclear at h
  split at h
  case h_2 => cases h
  rename_i elem base n cap hu
  rw [Option.bind_eq_some_iff] at hu
  obtain ⟨t, ht, hu⟩ := hu
  cases hz : zeroOf P elem with
  | none => rw [hz] at h; cases h
  | some z =>
    rw [hz] at h
    simp only at h
    obtain ⟨hzr, hzc, _⟩ := run_zero hz w
    obtain ⟨_, a', cap', rfl, hnil, _⟩ := hx.slice_any
    cases base with
    | none =>
      simp only at h; cases h
      cases a' with
      | some _ => simp at hnil
      | none =>
        have : (Builtin.clear_ argTypes ty #[.slice none n cap']).run P w = .ok (.tuple #[]) w := by
          cases n <;> simp [Builtin.clear_, ht, run_underlying hu]
        rw [this]; exact Told.same hS hu0
    | some ad =>
      obtain ⟨i, off, spot⟩ := ad
      cases spot with
      | some _ => cases h
      | none =>
        simp only at h
        split at h
        · rename_i hn0
          cases h
          subst hn0
          have : (Builtin.clear_ argTypes ty #[.slice a' 0 cap']).run P w = .ok (.tuple #[]) w := by
            cases a' <;> simp [Builtin.clear_, ht, run_underlying hu]
          rw [this]; exact Told.same hS hu0
        · rename_i hn0
          rw [Option.map_eq_some_iff] at h
          obtain ⟨H2, hst, e⟩ := h
          cases e
          rcases hx.slice_some with ⟨i2, off2, cap2, l, e, hl, g1, g2, g3, e2⟩ | ⟨i2, off2, a2, e, rfl, rfl, e2⟩
          · cases e; cases e2
            have hrel := zeros_rel (μ := μ) hzc n
            obtain ⟨w', hr, hS', hB⟩ := hS.st hl hst hrel
            have hne : ∃ n', n = n' + 1 := ⟨n - 1, by omega⟩
            obtain ⟨n', rfl⟩ := hne
            have hzz : (Builtin.zeroCells z.cells (n' + 1)).toList = zeros z.cells.toList (n' + 1) := by
              by_cases h0 : z.cells.size = 0
              · have e1 : z.cells = #[] := Array.eq_empty_of_size_eq_zero h0
                rw [e1]; simp [Builtin.zeroCells, zeros]
              · rw [← zeroCells_arr _ _ h0]
            have : (Builtin.clear_ argTypes ty #[.slice (some ⟨l.b, l.o + off, none⟩) (n' + 1) cap']).run P w = .ok (.tuple #[]) w' := by
              simp [Builtin.clear_, ht, run_underlying hu, hzr, hzz, hr]
            rw [this]
            exact ⟨_, μ, w', rfl, μ.le_refl, hu0, hS', hB⟩
          · exact absurd rfl hn0

/-! maps -/
theorem mapOf_inv {t : TypeId} {q : IntKind} {z : Value} (h : mapOf P t = some (q, z)) : ∃ k e, P.underlying t = some (.map k e) ∧ P.underlying k = some (.int q) ∧ zeroOf P e = some z := by
  unfold mapOf at h
  split at h
  case h_2 => cases h
  rename_i k e ht
  split at h
  case h_2 => cases h
  rename_i q' z' hk hz
  cases h
  exact ⟨k, e, ht, hk, hz⟩

theorem checkKey_int {k : TypeId} {q : IntKind} (hk : P.underlying k = some (.int q)) (b : Bool) (q' : IntKind) (n : Int) (w : World) : (Instr.checkKey b 10000 k (.int q' n)).run P w = .ok () w := by
  unfold Instr.checkKey
  simp [run_underlying hk]

/-- What is found: the first entry of a key. -/
theorem findNow_int (q : IntKind) (n : Int) : ∀ (ms : List MapEntry) (es : List (Int × Value)) (i : Nat), ms.map (·.key) = es.map (fun e => Value.int q e.1) →
    Instr.findNow (.int q) (.int q n) ms i = some ((es.findIdx? (fun e => e.1 == n)).bind fun j => (ms[j]?).map fun m => (i + j, m.val))
  | [], es, i, h => by
    have : es = [] := by cases es with | nil => rfl | cons _ _ => simp at h
    subst this; simp [Instr.findNow]
  | m :: ms, es, i, h => by
    cases es with
    | nil => simp at h
    | cons e es =>
      simp only [List.map_cons, List.cons.injEq] at h
      obtain ⟨h1, h2⟩ := h
      rw [Instr.findNow, h1]
      simp only [Instr.sameNow, if_true]
      by_cases he : n = e.1
      · subst he; simp [List.findIdx?_cons]
      · have hb : (n == e.1) = false := by simpa using he
        have hb' : (e.1 == n) = false := by simpa using fun x => he x.symm
        rw [hb]
        simp only
        rw [findNow_int q n ms es (i + 1) h2, List.findIdx?_cons, hb']
        simp only [Bool.false_eq_true, if_false]
        cases es.findIdx? (fun e => e.1 == n) with
        | none => rfl
        | some j => simp [Nat.add_assoc, Nat.add_comm 1 j]

theorem find_idx (es : List (Int × Value)) (n : Int) : es.find? (fun e => e.1 == n) = (es.findIdx? (fun e => e.1 == n)).bind (es[·]?) := by
  induction es with
  | nil => rfl
  | cons e es ih =>
    rw [List.find?_cons, List.findIdx?_cons]
    by_cases h : (e.1 == n) = true
    · rw [h]; rfl
    · have : (e.1 == n) = false := by simpa using h
      rw [this]
      simp only [Bool.false_eq_true, if_false, ih]
      cases es.findIdx? (fun e => e.1 == n) <;> rfl

theorem findKey_int {k : TypeId} {q : IntKind} (hk : P.underlying k = some (.int q)) (n : Int) {ms : Array MapEntry} {es : List (Int × Value)} (h : ms.toList.map (·.key) = es.map (fun e => Value.int q e.1)) (w : World) :
    (Instr.findKey k (.int q n) ms.toList).run P w = .ok ((es.findIdx? (fun e => e.1 == n)).bind fun j => (ms[j]?).map fun m => (j, m.val)) w := by
  unfold Instr.findKey
  simp only [Sem.run_bind, run_underlying hk, Result.andThen_ok, findNow_int q n ms.toList es 0 h, Sem.run_pure]
  congr 2
  funext j
  simp

theorem lookup_sound {t : TypeId} {m m' x x' v : Value} {ok : Bool} (hS : Sim P μ H w B) (hm : VR μ m m') (hx : VR μ x x') (h : alookup P t m x ok H = some v) :
    ∃ v', (Instr.lookup t m' x' ok).run P w = .ok v' w ∧ VR μ v v' := by
  unfold alookup at h
  split at h
  case h_2 => cases h
  rename_i q z hmo
  obtain ⟨k, e, ht, hk, hz⟩ := mapOf_inv hmo
  unfold mlook at h
  split at h
  case h_2 => cases h
  rename_i i q1 n
  obtain rfl := hx.int
  split at h
  case h_2 => cases h
  rename_i q2 es ho
  split at h
  case isFalse => cases h
  rename_i hq
  obtain ⟨rfl, rfl⟩ := hq
  obtain ⟨l, hl, hB, ms, clock, hh, hkeys, hvals⟩ := hS.oth.ok _ _ ho
  have hm' : m' = .map (some l.b) := by
    cases hm with
    | plain _ h => simp [plainV] at h
    | mapp _ l2 h2 => rw [hl] at h2; cases h2; rfl
  subst hm'
  have hobj : (getObj l.b).run P w = .ok (.map ms clock) w := by simp [getObj, Sem.run, hh]
  have hfind := findKey_int hk n hkeys w
  rw [find_idx] at h
  have key : ∀ r, (Instr.findKey k (.int q n) ms.toList).run P w = .ok r w → (Instr.lookup t (.map (some l.b)) (.int q n) ok).run P w =
      ((match r with | some (_, v) => pure (v, true) | none => do pure ((← zeroValue e), false) : Sem (Value × Bool)).run P w).andThen fun p w => .ok (if ok then .tuple #[p.1, .bool p.2] else p.1) w := by
    intro r hr
    unfold Instr.lookup
    simp only [Sem.run_bind, run_underlying ht, Result.andThen_ok, hobj, Sem.run_pure, checkKey_int hk, hr]
    cases r with
    | none => cases hzz : (zeroValue e).run P w <;> simp [hzz, Result.andThen]
    | some p => simp
  rw [key _ hfind]
  cases hi : es.findIdx? (fun e => e.1 == n) with
  | none =>
    rw [hi] at h
    simp only [Option.bind_none] at h ⊢
    obtain ⟨hzr, hzc, _⟩ := run_zero hz w
    simp only [Sem.run_bind, hzr, Result.andThen_ok, Sem.run_pure]
    refine ⟨_, rfl, ?_⟩
    cases h
    cases ok with
    | true => exact VRs.tuple (.cons (.closed hzc) (.cons (.plain _ rfl) .nil))
    | false => exact .closed hzc
  | some j =>
    rw [hi] at h
    simp only [Option.bind_some] at h ⊢
    cases hj : es[j]? with
    | none => exact absurd hj (by
        have := List.findIdx?_eq_some_iff_getElem.1 hi
        obtain ⟨hlt, _⟩ := this
        rw [List.getElem?_eq_getElem hlt]; simp)
    | some ev =>
      rw [hj] at h
      simp only at h
      obtain ⟨u', hu1, hu2⟩ := hvals.2 j ev.2 (by rw [List.getElem?_map, hj]; rfl)
      rw [List.getElem?_map] at hu1
      cases hmj : ms.toList[j]? with
      | none => rw [hmj] at hu1; cases hu1
      | some mv =>
        rw [hmj] at hu1; cases hu1
        have hmj' : ms[j]? = some mv := by simpa using hmj
        simp only [hmj', Option.map_some, Sem.run_pure, Result.andThen_ok]
        refine ⟨_, rfl, ?_⟩
        cases h
        cases ok with
        | true => exact VRs.tuple (.cons hu2 (.cons (.plain _ rfl) .nil))
        | false => exact hu2

theorem setObj_map {b : Nat} {x : Obj} {ms : Array MapEntry} {c : Nat} (h : w.heap[b]? = some (.map ms c)) : (setObj b x).run P w = .ok () (w.putObj b x) := by
  simp [setObj, Sem.run, h, World.putObj]

theorem mapUpdate_sound {t : TypeId} {m m' x x' u u' v : Value} (hS : Sim P μ H w B) (hm : VR μ m m') (hx : VR μ x x') (hu : VR μ u u') (h : amapUpdate P t m x u H = some (v, H')) :
    ∃ w', (Instr.mapUpdate t m' x' u').run P w = .ok () w' ∧ v = undef ∧ Sim P μ H' w' B ∧ Bel B w w' := by
  unfold amapUpdate at h
  split at h
  case h_2 => cases h
  rename_i q z hmo
  obtain ⟨k, e, ht, hk, hz⟩ := mapOf_inv hmo
  unfold mput at h
  split at h
  case h_2 => cases h
  rename_i i q1 n
  obtain rfl := hx.int
  split at h
  case h_2 => cases h
  rename_i q2 es ho
  split at h
  case isFalse => cases h
  rename_i hq
  obtain ⟨rfl, rfl⟩ := hq
  cases h
  obtain ⟨l, hl, hB, ms, clock, hh, hkeys, hvals⟩ := hS.oth.ok _ _ ho
  have hm' : m' = .map (some l.b) := by
    cases hm with
    | plain _ h => simp [plainV] at h
    | mapp _ l2 h2 => rw [hl] at h2; cases h2; rfl
  subst hm'
  have hlt := (Array.getElem?_eq_some_iff.1 hh).1
  have hobj : (getObj l.b).run P w = .ok (.map ms clock) w := by simp [getObj, Sem.run, hh]
  have hfind := findKey_int hk n hkeys w
  have hlen : ms.toList.length = es.length := by have := congrArg List.length hkeys; simpa using this
  cases hi : es.findIdx? (fun e => e.1 == n) with
  | none =>
    rw [hi] at hfind
    simp only [Option.bind_none] at hfind
    refine ⟨_, ?_, rfl, hS.putO (x := .map (ms.push { key := .int q n, val := u', born := clock }) (clock + 1)) ho hl ?_, Bel.putMap hh hB⟩
    · unfold Instr.mapUpdate
      simp only [Sem.run_bind, run_underlying ht, Result.andThen_ok, hobj, checkKey_int hk, hfind, setObj_map hh]
    · refine ⟨_, _, World.putObj_heap_same hlt, ?_, ?_⟩
      · simp only [tput, hi, Array.toList_push, List.map_append, hkeys, List.map_cons, List.map_nil]
      · simp only [tput, hi, Array.toList_push, List.map_append, List.map_cons, List.map_nil]
        exact hvals.append (.cons hu .nil)
  | some j =>
    obtain ⟨hjl, hje, _⟩ := List.findIdx?_eq_some_iff_getElem.1 hi
    have hjm : j < ms.size := by simpa using (by omega : j < ms.toList.length)
    have hkj : ms[j].key = .int q n := by
      have := congrArg (fun l => l[j]?) hkeys
      simp only [List.getElem?_map, List.getElem?_eq_getElem hjl, Array.getElem?_toList, Array.getElem?_eq_getElem hjm, Option.map_some, Option.some.injEq] at this
      rw [this]
      have : es[j].1 = n := by simpa using hje
      rw [this]
    rw [hi] at hfind
    simp only [Option.bind_some, Array.getElem?_eq_getElem hjm, Option.map_some] at hfind
    refine ⟨_, ?_, rfl, hS.putO (x := .map (ms.modify j fun e => { e with key := .int q n, val := u' }) clock) ho hl ?_, Bel.putMap hh hB⟩
    · unfold Instr.mapUpdate
      simp only [Sem.run_bind, run_underlying ht, Result.andThen_ok, hobj, checkKey_int hk, hfind, Array.getElem?_eq_getElem hjm, Option.map_some, Option.getD_some, hkj]
      have hst : (Instr.keyThatStays (.int q n) (.int q n)).run P w = .ok (.int q n) w := by
        unfold Instr.keyThatStays
        simp [Instr.sameBits]
      simp only [hst, Result.andThen_ok, setObj_map hh]
    · have hml : (ms.modify j fun e => { e with key := .int q n, val := u' }).toList = ms.toList.set j { ms[j] with key := .int q n, val := u' } := by
        apply List.ext_getElem?
        intro r
        rw [Array.getElem?_toList, Array.getElem?_modify, List.getElem?_set]
        by_cases e : j = r
        · subst e
          rw [if_pos rfl, if_pos rfl, if_pos (by simpa using hjm), Array.getElem?_eq_getElem hjm]; rfl
        · rw [if_neg e, if_neg e, Array.getElem?_toList]
      refine ⟨_, _, World.putObj_heap_same hlt, ?_, ?_⟩
      · rw [hml, List.map_set, hkeys]
        simp only [tput, hi, List.map_set]
      · rw [hml, List.map_set]
        simp only [tput, hi, List.map_set]
        exact hvals.set hu j

theorem map_eraseIdx {α β : Type} (f : α → β) (l : List α) (j : Nat) : (l.eraseIdx j).map f = (l.map f).eraseIdx j := by
  apply List.ext_getElem?
  intro r
  simp only [List.getElem?_map, List.getElem?_eraseIdx]
  split <;> rfl
theorem delete_sound {argTypes : Array TypeId} {ty : TypeId} {m m' x x' v : Value} (hS : Sim P μ H w B) (hm : VR μ m m') (hx : VR μ x x') (h : adelete P argTypes m x H = some (v, H')) :
    Told P μ v H' w B ((Builtin.delete_ argTypes ty #[m', x']).run P w) := by
  have hu0 : VR μ undef (.tuple #[]) := VRs.tuple (c := #[]) (c' := #[]) .nil
  unfold adelete at h
  split at h
  case h_2 => cases h
  rename_i q z hmo
  rw [Option.bind_eq_some_iff] at hmo
  obtain ⟨t, ht0, hmo⟩ := hmo
  obtain ⟨k, e, ht, hk, hz⟩ := mapOf_inv hmo
  unfold mdel at h
  split at h
  case h_2 => cases h
  rename_i i q1 n
  obtain rfl := hx.int
  split at h
  case h_2 => cases h
  rename_i q2 es ho
  split at h
  case isFalse => cases h
  rename_i hq
  obtain ⟨rfl, rfl⟩ := hq
  cases h
  obtain ⟨l, hl, hB, ms, clock, hh, hkeys, hvals⟩ := hS.oth.ok _ _ ho
  have hm' : m' = .map (some l.b) := by
    cases hm with
    | plain _ h => simp [plainV] at h
    | mapp _ l2 h2 => rw [hl] at h2; cases h2; rfl
  subst hm'
  have hlt := (Array.getElem?_eq_some_iff.1 hh).1
  have hobj : (getObj l.b).run P w = .ok (.map ms clock) w := by simp [getObj, Sem.run, hh]
  have hfind := findKey_int hk n hkeys w
  have hlen : ms.toList.length = es.length := by have := congrArg List.length hkeys; simpa using this
  cases hi : es.findIdx? (fun e => e.1 == n) with
  | none =>
    rw [hi] at hfind
    simp only [Option.bind_none] at hfind
    have hrun : (Builtin.delete_ argTypes ty #[.map (some l.b), .int q n]).run P w = .ok (.tuple #[]) (w.putObj l.b (.map ms clock)) := by
      unfold Builtin.delete_
      simp [ht0, run_underlying ht, hobj, checkKey_int hk, hfind, setObj_map hh]
    rw [hrun]
    refine ⟨_, μ, _, rfl, μ.le_refl, hu0, hS.putO ho hl ⟨ms, clock, World.putObj_heap_same hlt, ?_, ?_⟩, Bel.putMap hh hB⟩
    · simpa [tdel, hi] using hkeys
    · simpa [tdel, hi] using hvals
  | some j =>
    obtain ⟨hjl, hje, _⟩ := List.findIdx?_eq_some_iff_getElem.1 hi
    have hjm : j < ms.size := by simpa using (by omega : j < ms.toList.length)
    rw [hi] at hfind
    simp only [Option.bind_some, Array.getElem?_eq_getElem hjm, Option.map_some] at hfind
    have hrun : (Builtin.delete_ argTypes ty #[.map (some l.b), .int q n]).run P w = .ok (.tuple #[]) (w.putObj l.b (.map (ms.eraseIdxIfInBounds j) clock)) := by
      unfold Builtin.delete_
      simp [ht0, run_underlying ht, hobj, checkKey_int hk, hfind, setObj_map hh]
    rw [hrun]
    have hml : (ms.eraseIdxIfInBounds j).toList = ms.toList.eraseIdx j := by
      unfold Array.eraseIdxIfInBounds
      rw [dif_pos hjm]; simp
    refine ⟨_, μ, _, rfl, μ.le_refl, hu0, hS.putO ho hl ⟨_, clock, World.putObj_heap_same hlt, ?_, ?_⟩, Bel.putMap hh hB⟩
    · rw [hml, map_eraseIdx, hkeys]; simp only [tdel, hi, map_eraseIdx]
    · rw [hml]
      simp only [tdel, hi, map_eraseIdx]
      refine ⟨?_, fun r y hr => ?_⟩
      · have := hvals.1; simp [List.length_eraseIdx] at this ⊢; simp [this]
      · rw [List.getElem?_eraseIdx] at hr ⊢
        split
        · rename_i h1; rw [if_pos h1] at hr; exact hvals.2 _ _ hr
        · rename_i h1; rw [if_neg h1] at hr; exact hvals.2 _ _ hr

theorem makeMap_sound {t : TypeId} {v : Value} (hS : Sim P μ H w B) (h : amakeMap P t H = some (v, H')) : Told P μ v H' w B ((Instr.makeMap t none).run P w) := by
  unfold amakeMap at h
  split at h
  case h_2 => cases h
  rename_i q z hmo
  cases h
  have hrun : (Instr.makeMap t none).run P w = .ok (.map (some w.heap.size)) (w.alloc (.map #[] 0)) := by
    unfold Instr.makeMap
    simp
  rw [hrun]
  have hw1 : ∀ k, k < w.heap.size → (w.alloc (.map #[] 0)).heap[k]? = w.heap[k]? := fun k hk => Below.heap_alloc _ _ _ hk
  obtain ⟨h1, h2⟩ := hS.newO (w1 := w.alloc (.map #[] 0)) (l := w.heap.size) (o := .tab q []) hw1 (by simp) (Nat.le_refl _) ⟨#[], 0, World.alloc_heap_new w _, rfl, .nil⟩
  exact ⟨_, _, _, rfl, h1, .mapp _ ⟨w.heap.size, 0, 0, 0⟩ Mu.up_self, h2, (Bel.refl B w).alloc hS.base _⟩

theorem mlen_sound {t k e : TypeId} {argTypes : Array TypeId} {ty : TypeId} {m m' v : Value} (hS : Sim P μ H w B) (hm : VR μ m m') (ht0 : argTypes[0]? = some t) (ht : P.underlying t = some (.map k e)) (h : mlen m H = some v) :
    (Builtin.len_ argTypes ty #[m']).run P w = .ok v w ∧ plainV v = true := by
  unfold mlen at h
  split at h
  case h_2 => cases h
  rename_i i
  split at h
  case h_2 => cases h
  rename_i q es ho
  cases h
  obtain ⟨l, hl, hB, ms, clock, hh, hkeys, hvals⟩ := hS.oth.ok _ _ ho
  have hm' : m' = .map (some l.b) := by
    cases hm with
    | plain _ h => simp [plainV] at h
    | mapp _ l2 h2 => rw [hl] at h2; cases h2; rfl
  subst hm'
  have hobj : (getObj l.b).run P w = .ok (.map ms clock) w := by simp [getObj, Sem.run, hh]
  have hlen : ms.size = es.length := by have := congrArg List.length hkeys; simpa using this
  refine ⟨?_, rfl⟩
  unfold Builtin.len_
  simp [ht0, run_underlying ht, hobj, goInt, hlen]
end Go.Proofs.YtgakioiplkehgaaA.Am
