/-
Slices cut, rows made, structs built.
-/
import Derived.Test.YtgakioiplkehgaaAmBin
namespace Go.Proofs.YtgakioiplkehgaaA.Am
open Go.RowKit (Below)
variable {P : Program} {μ : Mu} {H H' : Heap} {w : World} {B : Nat}

theorem intOf_some {v v' : Value} {n : Int} (hv : VR μ v v') (h : intOfV v = some n) : ∃ k, v' = .int k n := by
  unfold intOfV at h
  split at h
  · rename_i k m; cases h; exact ⟨k, hv.int⟩
  · cases h

theorem bound_run {k : IntKind} {n : Int} {y : Nat} {c : BoundsCode} (h0 : 0 ≤ n) (h : n ≤ y) (w : World) : (Instr.sliceBound (.int k n) y c).run P w = .ok n.toNat w := by
  simp [Instr.sliceBound, asIntOf, h0, h]

/-- A value that may be left out. -/
def VRo (μ : Mu) (x x' : Option Value) : Prop := (x = none ∧ x' = none) ∨ ∃ a a', x = some a ∧ x' = some a' ∧ VR μ a a'

theorem bounds_run {len cap cap' : Nat} {lo hi lo' hi' : Option Value} {h l : Int} (hlo : VRo μ lo lo') (hhi : VRo μ hi hi') (hh : boundOf len hi = some h) (hl : boundOf 0 lo = some l)
    (hb : 0 ≤ h ∧ h ≤ cap ∧ 0 ≤ l ∧ l ≤ h) (hc : cap ≤ cap') (w : World) : (Instr.sliceBounds true len cap' lo' hi' none).run P w = .ok (l.toNat, h.toNat, cap') w := by
  rcases hhi with ⟨rfl, rfl⟩ | ⟨a, a', rfl, rfl, r⟩ <;> rcases hlo with ⟨rfl, rfl⟩ | ⟨b, b', rfl, rfl, r2⟩
  · simp only [boundOf] at hh hl; cases hh; cases hl; simp [Instr.sliceBounds]
  · simp only [boundOf] at hh hl; cases hh
    obtain ⟨k, rfl⟩ := intOf_some r2 hl
    have := bound_run (P := P) (k := k) (y := len) (c := .sliceB) hb.2.2.1 hb.2.2.2 w
    simp [Instr.sliceBounds, this]
  · simp only [boundOf] at hh hl; cases hl
    obtain ⟨k, rfl⟩ := intOf_some r hh
    have := bound_run (P := P) (k := k) (y := cap') (c := .sliceAcap) hb.1 (by omega) w
    simp [Instr.sliceBounds, this]
  · obtain ⟨k, rfl⟩ := intOf_some r hh
    obtain ⟨k2, rfl⟩ := intOf_some r2 hl
    have h1 := bound_run (P := P) (k := k) (y := cap') (c := .sliceAcap) hb.1 (by omega) w
    have h2 := bound_run (P := P) (k := k2) (n := l) (y := h.toNat) (c := .sliceB) hb.2.2.1 (by omega) w
    simp [Instr.sliceBounds, h1, h2]

theorem aslice_sound {t : TypeId} {x x' v : Value} {lo hi lo' hi' : Option Value} (hS : Sim P μ H w B) (hx : VR μ x x')
    (hlo : VRo μ lo lo') (hhi : VRo μ hi hi') (h : aslice P H t x lo hi = some v) :
    ∃ v', (Instr.sliceAt t x' lo' hi' none).run P w = .ok v' w ∧ VR μ v v' := by
  unfold aslice at h
  split at h
  · rename_i elem a len cap hu
    cases hz : szOf P elem with
    | none => rw [hz] at h; cases h
    | some size =>
      rw [hz] at h
      simp only at h
      obtain ⟨hlc, a', cap', rfl, hnil, hcc⟩ := hx.slice_any
      split at h
      · rename_i h' l hh hl
        split at h
        · rename_i hb
          have hrun : (Instr.sliceAt t (.slice a' len cap') lo' hi' none).run P w = .ok (.slice (if cap' = l.toNat then a' else a'.map (·.add (l.toNat * size))) (h'.toNat - l.toNat) (cap' - l.toNat)) w := by
            simp [Instr.sliceAt, Instr.slice, run_underlying hu, bounds_run hlo hhi hh hl hb hcc, run_sz hz]
          refine ⟨_, hrun, ?_⟩
          obtain ⟨h0, hc, l0, lh⟩ := hb
          cases a with
          | none =>
            obtain ⟨rfl, rfl, e2⟩ := hx.slice_nil
            cases e2; cases h
            have e1 : h' = 0 := by omega
            have e3 : l = 0 := by omega
            subst e1; subst e3
            simp
            exact .plain _ rfl
          | some ad =>
            rcases hx.slice_some with ⟨i, off, c2, lc, rfl, hl2, g1, g2, g3, e2⟩ | ⟨i, off, a2, rfl, rfl, rfl, e2⟩
            · cases e2
              simp only at h
              have hz0 : (if cap = 0 then some (Value.slice (some ⟨i, off, none⟩) 0 0) else none) = some v → VR μ v (.slice (if cap' = l.toNat then some ⟨lc.b, lc.o + off, none⟩ else (some ⟨lc.b, lc.o + off, none⟩ : Option Addr).map (·.add (l.toNat * size))) (h'.toNat - l.toNat) (cap' - l.toNat)) := by
                intro h
                split at h
                case isFalse => cases h
                rename_i hc0
                cases h
                have e1 : h' = 0 := by omega
                have e3 : l = 0 := by omega
                subst e1; subst e3
                by_cases hc' : cap' = 0
                · subst hc'; simp; exact .slice0 _ _ _
                · simp [hc', addr_add]
                  exact .slice i off 0 0 cap' lc hl2 (by omega) (by omega) g3
              cases hb : H.get i with
              | none => rw [hb] at h; exact hz0 h
              | some b =>
                rw [hb] at h
                simp only at h
                split at h
                case isFalse => exact hz0 h
                · rename_i hes
                  cases h
                  obtain ⟨m, hm, k⟩ := hS.ok i b hb
                  rw [hl2] at hm; cases hm
                  have hes' : lc.es = size := k.es.trans hes
                  by_cases hcl : cap' = l.toNat
                  · rw [if_pos hcl]
                    have e1 : h'.toNat - l.toNat = 0 := by omega
                    have e2 : cap - l.toNat = 0 := by omega
                    have e3 : cap' - l.toNat = 0 := by omega
                    rw [e1, e2, e3]
                    exact .slice0 _ _ _
                  · rw [if_neg hcl]
                    simp only [Option.map_some, addr_add, Nat.add_assoc]
                    refine .slice i (off + l.toNat * size) (h'.toNat - l.toNat) (cap - l.toNat) (cap' - l.toNat) lc hl2 (by omega) (by omega) ?_
                    rw [hes'] at g3 ⊢
                    have : cap' * size = l.toNat * size + (cap' - l.toNat) * size := by rw [← Nat.add_mul]; congr 1; omega
                    omega
            · cases e2
              have e1 : h' = 0 := by omega
              have e3 : l = 0 := by omega
              subst e1; subst e3
              have hv : v = .slice (some ⟨i, off, none⟩) 0 0 := by
                simp only at h
                cases hb : H.get i with
                | none => rw [hb] at h; simpa using h.symm
                | some b =>
                  rw [hb] at h
                  simp only at h
                  split at h <;> simpa using h.symm
              subst hv
              simp
              exact .slice0 _ _ _
        · cases h
      · cases h
  · cases h

theorem zeros_get (z : List Value) : ∀ (n i : Nat), i < n * z.length → (zeros z n)[i]? = z[i % z.length]?
  | 0, i, h => by simp at h
  | n + 1, i, h => by
    have e : zeros z (n + 1) = z ++ zeros z n := by simp [zeros, List.replicate_succ]
    rw [e, List.getElem?_append]
    split
    · rename_i hlt; rw [Nat.mod_eq_of_lt hlt]
    · rename_i hge
      have hl : (n + 1) * z.length = n * z.length + z.length := Nat.succ_mul _ _
      rw [zeros_get z n (i - z.length) (by omega)]
      have : i % z.length = (i - z.length) % z.length := by rw [Nat.mod_eq_sub_mod (by omega)]
      rw [this]
theorem zeros_length (z : List Value) (n : Nat) : (zeros z n).length = n * z.length := by
  induction n with
  | zero => simp [zeros]
  | succ n ih =>
    have e : zeros z (n + 1) = z ++ zeros z n := by simp [zeros, List.replicate_succ]
    rw [e, List.length_append, ih, Nat.succ_mul]; omega
theorem zeros_arr (z : Array Value) (n : Nat) (hz : z.size ≠ 0) : ((Array.range (n * z.size)).map (fun i => z[i % z.size]!)).toList = zeros z.toList n := by
  apply List.ext_getElem?
  intro i
  by_cases h : i < n * z.size
  · rw [zeros_get _ _ _ (by simpa using h)]
    have hm : i % z.size < z.size := Nat.mod_lt _ (by omega)
    simp [h, hm]
  · rw [List.getElem?_eq_none (by simp; omega), List.getElem?_eq_none (by rw [zeros_length]; simp; omega)]
theorem zeroCells_arr (z : Array Value) (n : Nat) (hz : z.size ≠ 0) : (Builtin.zeroCells z n).toList = zeros z.toList n := zeros_arr z n hz

theorem closed_list {z : Value} (h : closedV z = true) : VRs μ z.cells.toList z.cells.toList := by
  have hv : VR μ z z := .closed h
  refine VRs.cells hv ?_
  cases z <;> simp [closedV, plainV] at h <;> rfl
theorem zeros_rel {z : Value} (h : closedV z = true) (n : Nat) : VRs μ (zeros z.cells.toList n) (zeros z.cells.toList n) := by
  induction n with
  | zero => exact .nil
  | succ n ih =>
    have e : ∀ l : List Value, zeros l (n + 1) = l ++ zeros l n := by intro l; simp [zeros, List.replicate_succ]
    rw [e]; exact (closed_list h).append ih

theorem plain_one {v : Value} (h : plainV v = true) : oneCell v = true := by cases v <;> first | rfl | (simp [plainV] at h)
theorem closed_one {z : Value} (h : closedV z = true) : z.cells.toList.all oneCell = true := by
  cases z with
  | agg cs =>
    simp only [closedV, List.all_eq_true] at h
    simp only [Value.cells, List.all_eq_true]
    exact fun x hx => plain_one (h x hx)
  | _ => simp only [Value.cells]; simp; exact plain_one h
theorem zeros_one {z : Value} (h : closedV z = true) (n : Nat) : (zeros z.cells.toList n).all oneCell = true := by
  induction n with
  | zero => rfl
  | succ n ih =>
    have e : ∀ l : List Value, zeros l (n + 1) = l ++ zeros l n := by intro l; simp [zeros, List.replicate_succ]
    rw [e, List.all_append, closed_one h, ih]; rfl
/-- What an operation tells. -/
def Told (P : Program) (μ : Mu) (v : Value) (H' : Heap) (w : World) (B : Nat) (r : Result Value) : Prop :=
  ∃ v' μ' w', r = .ok v' w' ∧ μ.le μ' ∧ VR μ' v v' ∧ Sim P μ' H' w' B ∧ Bel B w w'
theorem Told.same {v v' : Value} (hS : Sim P μ H w B) (hv : VR μ v v') : Told P μ v H w B (.ok v' w) := ⟨v', μ, w, rfl, μ.le_refl, hv, hS, Bel.refl _ _⟩

theorem newBlk_sound {t t' : TypeId} {cs : List Value} {cs' : Array Value} (hS : Sim P μ H w B) (h1c : cs.all oneCell = true) (h : VRs μ cs cs'.toList) :
    Told P μ (newBlk H t 1 cs).1 (newBlk H t 1 cs).2 w B ((do pure (.pointer (some (← newRow t' cs'))) : Sem Value).run P w) := by
  obtain ⟨h1, h2⟩ := hS.alloc cs t' t 1 cs' cs'.size rfl h1c (by have := h.1; simp at this; omega) (by rw [h.1, List.take_length]; exact h) (fun k v hk hv => by have := h.1; have := (Array.getElem?_eq_some_iff.1 hv).1; simp at *; omega)
  refine ⟨.pointer (some ⟨w.heap.size, 0, none⟩), _, w.alloc (.cells cs' t'), rfl, h1, ?_, h2, (Bel.refl _ _).alloc hS.base _⟩
  have := VR.ptr (μ := μ.up H.length ⟨w.heap.size, 0, cs'.size, 1⟩) H.length 0 _ Mu.up_self
  simpa [newBlk] using this

theorem amakeSlice_sound {t : TypeId} {l c l' c' v : Value} (hS : Sim P μ H w B) (hl : VR μ l l') (hc : VR μ c c') (h : amakeSlice P t l c H = some (v, H')) :
    Told P μ v H' w B ((Instr.makeSlice t l' c').run P w) := by
  unfold amakeSlice at h
  split at h
  · rename_i elem k a k' b hu
    obtain rfl := hl.int
    obtain rfl := hc.int
    split at h
    · rename_i size bytes z hz hb hzv
      split at h
      · rename_i hcond
        obtain ⟨h0, hab, hbmax, hbytes, hsize⟩ := hcond
        cases h
        obtain ⟨i, hi, hib⟩ := bytes_info hb
        obtain ⟨_, hzc, n, hn, hzn⟩ := run_zero hzv w
        rw [hz] at hn; cases hn
        have w1 : IntKind.i64.wrap a = a := by rw [IntKind.wrap_i64]; omega
        have w2 : IntKind.i64.wrap b = b := by rw [IntKind.wrap_i64]; omega
        have hsz : (0 : Nat) < size := by omega
        have hne : b.toNat * size = 0 ↔ b.toNat = 0 := by simp [Nat.mul_eq_zero]; omega
        have hmul : (i.bytes : Int) * b ≤ 17592186044416 := by
          have h1 : (i.bytes : Int) ≤ 4096 := by omega
          have h2 : 0 ≤ b := by omega
          calc (i.bytes : Int) * b ≤ 4096 * b := Int.mul_le_mul_of_nonneg_right h1 h2
            _ ≤ 17592186044416 := by omega
        have hrow : ∃ cs' : Array Value, cs'.toList = zeros z.cells.toList b.toNat ∧ (Instr.makeSlice t (.int k a) (.int k' b)).run P w = .ok (.slice (some ⟨w.heap.size, 0, none⟩) a.toNat b.toNat) (w.alloc (.cells cs' elem)) := by
          have hlarge : ¬ (b < 0 ∨ (281474976710656 : Int) < (i.bytes : Int) * b) := by omega
          by_cases hb0 : b.toNat = 0
          · refine ⟨(Array.range 0).map (fun _ => default), by simp [hb0, zeros], ?_⟩
            have : b = 0 := by omega
            subst this
            have : a = 0 := by omega
            subst this
            simp [Instr.makeSlice, run_underlying hu, asInt, asIntOf, run_info hi, IntKind.wrap_i64, run_sz hz, newRow]
          · refine ⟨(Array.range (b.toNat * size)).map (fun i => z.cells[i % z.cells.size]!), by rw [← zeros_arr _ _ (by omega), hzn], ?_⟩
            have hbl : ¬ (a < 0 ∨ b < a) := by omega
            simp [Instr.makeSlice, run_underlying hu, asInt, asIntOf, run_info hi, w1, w2, run_sz hz, newRow, (run_zero hzv _).1]
            rw [if_neg (by rintro (((h | h) | h) | h) <;> omega), if_neg (fun e => hb0 (hne.1 e))]
        obtain ⟨cs', e, hrun⟩ := hrow
        rw [hrun]
        have hlen : cs'.size = b.toNat * size := by
          have := congrArg List.length e
          rw [zeros_length] at this; simp at this; rw [this, hzn]
        obtain ⟨h1, h2⟩ := hS.alloc (zeros z.cells.toList b.toNat) elem elem size cs' cs'.size rfl (zeros_one hzc _) (by rw [← e]; simp) (by rw [← e, List.take_length, e]; exact zeros_rel hzc _) (fun k v hk hv => by have := (Array.getElem?_eq_some_iff.1 hv).1; rw [← e] at hk; simp at hk; omega)
        refine ⟨_, _, _, rfl, h1, ?_, h2, (Bel.refl _ _).alloc hS.base _⟩
        have := VR.slice (μ := μ.up H.length ⟨w.heap.size, 0, cs'.size, size⟩) H.length 0 a.toNat b.toNat b.toNat _ Mu.up_self (by omega) (Nat.le_refl _) (by simp [hlen])
        simpa using this
      · cases h
    · cases h
  · cases h

/-! structs and rows out of their parts -/
theorem fold_set {c c' : List Value} (hc : VRs μ c c') (off : Nat) : ∀ (k : Nat) {cs cs' : Array Value}, VRs μ cs.toList cs'.toList →
    VRs μ ((c.zipIdx k).foldl (fun cs (x : Value × Nat) => cs.setIfInBounds (off + x.2) x.1) cs).toList ((c'.zipIdx k).foldl (fun cs (x : Value × Nat) => cs.setIfInBounds (off + x.2) x.1) cs').toList := by
  induction c generalizing c' with
  | nil => intro k cs cs' h; rw [hc.nil_inv]; exact h
  | cons a r ih =>
    intro k cs cs' h
    obtain ⟨b, y, rfl, h1, h2⟩ := hc.uncons
    simp only [List.zipIdx_cons, List.foldl_cons]
    refine ih h2 (k + 1) ?_
    simp only [Array.toList_setIfInBounds]
    exact h.set h1 _

theorem fill_sound (place : Nat → Option (Nat × Nat)) : ∀ {ps ps' : List (Nat × Value)} {cs cs' : Array Value} {r : Array Value}, VRs μ cs.toList cs'.toList →
    ps.map (·.1) = ps'.map (·.1) → VRs μ (ps.map (·.2)) (ps'.map (·.2)) → ps.all (fun p => known p.2) = true → Instr.fill place cs ps = some r →
    ∃ r', Instr.fill place cs' ps' = some r' ∧ VRs μ r.toList r'.toList := by
  intro ps
  induction ps with
  | nil =>
    intro ps' cs cs' r hc h1 h2 hk h
    cases ps' with
    | nil => simp only [Instr.fill] at h ⊢; cases h; exact ⟨_, rfl, hc⟩
    | cons => simp at h1
  | cons p ps ih =>
    intro ps' cs cs' r hc h1 h2 hk h
    cases ps' with
    | nil => simp at h1
    | cons p' ps' =>
      obtain ⟨i, v⟩ := p
      obtain ⟨i', v'⟩ := p'
      simp only [List.map_cons, List.cons.injEq] at h1 h2
      obtain ⟨rfl, h1⟩ := h1
      obtain ⟨b, y, e, r1, r2⟩ := h2.uncons
      cases e
      simp only [List.all_cons, Bool.and_eq_true] at hk
      have hcs := VRs.cells r1 hk.1
      have hs1 : v.cells.size = v'.cells.size := by simpa using hcs.1
      have hs2 : cs.size = cs'.size := by simpa using hc.1
      simp only [Instr.fill] at h ⊢
      cases hp : place i with
      | none => rw [hp] at h; cases h
      | some q =>
        obtain ⟨off, size⟩ := q
        rw [hp] at h
        simp only at h ⊢
        rw [← hs1, ← hs2]
        split at h
        · cases h
        · rename_i hcond
          rw [if_neg hcond]
          refine ih ?_ h1 r2 hk.2 h
          have := fold_set hcs off 0 hc
          rw [← Array.foldl_toList, ← Array.foldl_toList, Array.toList_zipIdx, Array.toList_zipIdx]
          exact this

theorem fill_size (place : Nat → Option (Nat × Nat)) : ∀ {ps : List (Nat × Value)} {cs r : Array Value}, Instr.fill place cs ps = some r → r.size = cs.size := by
  intro ps
  induction ps with
  | nil => intro cs r h; simp only [Instr.fill] at h; cases h; rfl
  | cons p ps ih =>
    intro cs r h
    obtain ⟨i, v⟩ := p
    simp only [Instr.fill] at h
    cases hp : place i with
    | none => rw [hp] at h; cases h
    | some q =>
      obtain ⟨off, size⟩ := q
      rw [hp] at h
      simp only at h
      split at h
      · cases h
      · rename_i hc
        rw [ih h, ← Array.foldl_toList]
        generalize v.cells.zipIdx.toList = l
        clear h ih hc
        induction l generalizing cs with
        | nil => rfl
        | cons a l ihl => rw [List.foldl_cons, ihl]; simp

theorem fill_one (place : Nat → Option (Nat × Nat)) : ∀ {ps : List (Nat × Value)} {cs r : Array Value}, cs.toList.all oneCell = true → ps.all (fun p => p.2.cells.toList.all oneCell) = true → Instr.fill place cs ps = some r → r.toList.all oneCell = true := by
  intro ps
  induction ps with
  | nil => intro cs r hc _ h; simp only [Instr.fill] at h; cases h; exact hc
  | cons p ps ih =>
    intro cs r hc hk h
    obtain ⟨i, v⟩ := p
    simp only [List.all_cons, Bool.and_eq_true] at hk
    simp only [Instr.fill] at h
    cases hp : place i with
    | none => rw [hp] at h; cases h
    | some q =>
      obtain ⟨off, size⟩ := q
      rw [hp] at h
      simp only at h
      split at h
      · cases h
      · refine ih ?_ hk.2 h
        rw [← Array.foldl_toList, Array.toList_zipIdx]
        have key : ∀ (l : List Value) (k : Nat) (cs : Array Value), l.all oneCell = true → cs.toList.all oneCell = true →
            ((l.zipIdx k).foldl (fun cs (x : Value × Nat) => cs.setIfInBounds (off + x.2) x.1) cs).toList.all oneCell = true := by
          intro l
          induction l with
          | nil => intro k cs _ h; exact h
          | cons a l ihl =>
            intro k cs ha hcs
            simp only [List.all_cons, Bool.and_eq_true] at ha
            simp only [List.zipIdx_cons, List.foldl_cons]
            refine ihl _ _ ha.2 ?_
            rw [List.all_eq_true] at hcs ⊢
            intro x hx
            simp only [Array.toList_setIfInBounds] at hx
            rcases List.mem_or_eq_of_mem_set hx with hx | rfl
            · exact hcs x hx
            · exact ha.1
        exact key _ 0 _ hk.1 hc

theorem places_run {fields : Array Field} {pl : Array (Nat × Nat)} (h : placesOf P fields = some pl) (w : World) :
    (fields.mapM fun (f : Field) => do pure (f.offset, ← sizeOf f.type) : Sem (Array (Nat × Nat))).run P w = .ok pl w := by
  unfold placesOf at h
  rw [Option.map_eq_some_iff] at h
  obtain ⟨l, hl, rfl⟩ := h
  rw [Array.mapM_eq_mapM_toList]
  have : ∀ (fs : List Field) (l : List (Nat × Nat)), (fs.mapM fun f => (szOf P f.type).map fun n => (f.offset, n)) = some l →
      (fs.mapM fun (f : Field) => do pure (f.offset, ← sizeOf f.type) : Sem (List (Nat × Nat))).run P w = .ok l w := by
    intro fs
    induction fs with
    | nil => intro l h; simp at h; subst h; rfl
    | cons f r ih =>
      intro l h
      rw [List.mapM_cons] at h
      simp only [Option.bind_eq_bind, Option.bind_eq_some_iff, Option.map_eq_some_iff] at h
      obtain ⟨q, ⟨n, hn, rfl⟩, l2, hl2, e⟩ := h
      cases e
      rw [List.mapM_cons]
      simp only [Sem.run_bind, run_sz hn, Result.andThen_ok, Sem.run_pure, ih l2 hl2]
  simp only [Sem.run_map, this _ _ hl, Result.andThen_ok]

theorem abuild_sound {t : TypeId} {ps ps' : List (Nat × Value)} {v : Value} (h1 : ps.map (·.1) = ps'.map (·.1)) (h2 : VRs μ (ps.map (·.2)) (ps'.map (·.2))) (h : abuild P t ps = some v) (w : World) :
    ∃ v', (Instr.build t ps'.toArray).run P w = .ok v' w ∧ VR μ v v' := by
  unfold abuild at h
  split at h
  · cases h
  · rename_i hk
    have hk : ps.all (fun p => known p.2) = true := by simpa using hk
    split at h
    · rename_i z fields hz hu
      cases hp : placesOf P fields with
      | none => rw [hp] at h; cases h
      | some pl =>
        rw [hp] at h
        simp only [Option.map_eq_some_iff] at h
        obtain ⟨r, hr, rfl⟩ := h
        obtain ⟨hzr, hzc, _⟩ := run_zero hz w
        obtain ⟨r', hr', hv⟩ := fill_sound _ (closed_list hzc) h1 h2 hk hr
        refine ⟨.agg r', ?_, hv.agg⟩
        have hpl := places_run hp w
        simp only [Instr.build, Sem.run_bind, hzr, Result.andThen_ok, run_underlying hu, hpl]
        simp [hr']
    · rename_i z n elem hz hu
      cases hs : szOf P elem with
      | none => rw [hs] at h; cases h
      | some size =>
        rw [hs] at h
        simp only [Option.map_eq_some_iff] at h
        obtain ⟨r, hr, rfl⟩ := h
        obtain ⟨hzr, hzc, _⟩ := run_zero hz w
        obtain ⟨r', hr', hv⟩ := fill_sound _ (closed_list hzc) h1 h2 hk hr
        refine ⟨.agg r', ?_, hv.agg⟩
        simp only [Instr.build, Sem.run_bind, hzr, Result.andThen_ok, run_underlying hu, run_sz hs]
        simp [hr']
    · cases h

theorem abuildSlice_sound {t : TypeId} {n : Nat} {ps ps' : List (Nat × Value)} {v : Value} (hS : Sim P μ H w B) (h1 : ps.map (·.1) = ps'.map (·.1)) (h2 : VRs μ (ps.map (·.2)) (ps'.map (·.2)))
    (h : abuildSlice P t n ps H = some (v, H')) : Told P μ v H' w B ((Instr.buildSlice t n ps'.toArray).run P w) := by
  unfold abuildSlice at h
  split at h
  · cases h
  · rename_i hk
    have hk1 : ps.all (fun p => p.2.cells.toList.all oneCell) = true := by simpa using hk
    have hk : ps.all (fun p => known p.2) = true := by
      rw [List.all_eq_true] at hk1 ⊢
      intro p hp
      have := hk1 p hp
      revert this
      cases p.2 <;> simp [Value.cells, oneCell, known]
    split at h
    · rename_i elem hu
      split at h
      · rename_i size z hs hz
        split at h
        · rename_i hc
          simp only [Bool.and_eq_true, decide_eq_true_eq, ne_eq] at hc
          obtain ⟨hmax, hsz⟩ := hc
          obtain ⟨hzr, hzc, m, hm, hzn⟩ := run_zero hz w
          rw [hs] at hm; cases hm
          cases hf : Instr.fill (fun i => some (i * size, size)) (zeros z.cells.toList n).toArray ps with
          | none => rw [hf] at h; cases h
          | some cs =>
            rw [hf] at h
            cases h
            obtain ⟨cs', hf', hv⟩ := fill_sound (cs' := (zeros z.cells.toList n).toArray) _ (by simpa using zeros_rel hzc n) h1 h2 hk hf
            have hlen : cs'.size = n * size := by
              rw [fill_size _ hf']; simp [zeros_length, hzn]
            have hrun : (Instr.buildSlice t n ps'.toArray).run P w = .ok (.slice (some ⟨w.heap.size, 0, none⟩) n n) (w.alloc (.cells cs' elem)) := by
              have hsz' : (0 : Nat) < size := Nat.pos_of_ne_zero (by simpa using hsz)
              have hbig : ¬ (n * size > 2 ^ 24) := by simpa using hmax
              by_cases h0 : n = 0
              · subst h0
                have e : (zeros z.cells.toList 0).toArray = (Array.range (0 * size)).map (fun i => (#[] : Array Value)[i % (#[] : Array Value).size]!) := by simp [zeros]
                rw [e] at hf'
                simp only [Instr.buildSlice, Sem.run_bind, run_underlying hu, run_sz hs, Result.andThen_ok, Sem.run_ite, Sem.run_pure, Nat.zero_mul, if_true]
                simp only [Nat.zero_mul] at hf'
                simp only [hf']
                rfl
              · have hne : ¬ n * size = 0 := by simp [Nat.mul_eq_zero]; omega
                have e : (zeros z.cells.toList n).toArray = (Array.range (n * size)).map (fun i => z.cells[i % z.cells.size]!) := by
                  rw [← zeros_arr _ _ (by omega), hzn]
                rw [e] at hf'
                simp only [Instr.buildSlice, Sem.run_bind, run_underlying hu, run_sz hs, Result.andThen_ok, Sem.run_ite, hbig, if_false, Sem.run_pure, hne, hzr, hf']
                rfl
            rw [hrun]
            obtain ⟨g1, g2⟩ := hS.alloc cs.toList elem elem size cs' cs'.size rfl (fill_one _ (by simpa using zeros_one hzc n) hk1 hf) (by have := hv.1; simp at this ⊢; omega) (by rw [hv.1, List.take_length]; exact hv) (fun k v hk hv2 => by have := hv.1; have := (Array.getElem?_eq_some_iff.1 hv2).1; simp at *; omega)
            refine ⟨_, _, _, rfl, g1, ?_, g2, (Bel.refl _ _).alloc hS.base _⟩
            have := VR.slice (μ := μ.up H.length ⟨w.heap.size, 0, cs'.size, size⟩) H.length 0 n n n _ Mu.up_self (Nat.le_refl _) (Nat.le_refl _) (by simp [hlen])
            simpa using this
        · cases h
      · cases h
    · cases h

end Go.Proofs.YtgakioiplkehgaaA.Am
