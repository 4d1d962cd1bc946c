/-
A block that is laid at a number kept free.
-/
import Derived.Test.YtgakioiplkehgaaAmAop
import Derived.Test.YtgakioiplkehgaaAmHole
namespace Go.Proofs.YtgakioiplkehgaaA.Am
open Go.RowKit (Below)
variable {P : Program} {μ : Mu} {H H' : Heap} {w : World} {B : Nat}

theorem get_lay_self {i : Nat} {b : Blk} (h : i < H.length) : (H.lay i b).get i = some b := Heap.get_put_self h
theorem get_lay_ne {i j : Nat} {b : Blk} (h : j ≠ i) : (H.lay i b).get j = H.get j := Heap.get_put_ne h
theorem oth_lay_inv {i j : Nat} {b : Blk} {o : Other} (h : (H.lay i b).oth j = some o) : H.oth j = some o := by
  by_cases e : j = i
  · subst e
    have hl := Heap.oth_lt h
    rw [lay_len] at hl
    rw [Heap.oth_of_get (get_lay_self hl)] at h; cases h
  · rw [← h]; exact (Heap.oth_congr (List.getElem?_set_ne (Ne.symm e))).symm

theorem Sim.fill {i : Nat} (h : Sim P μ H w B) (hf : Free H i) (cs : List Value) (ty t : TypeId) (es : Nat) (cs' : Array Value) (n : Nat)
    (hn : n = cs'.size) (h1c : cs.all oneCell = true) (hle : cs.length ≤ cs'.size) (hv : VRs μ cs (cs'.toList.take cs.length)) (hsp : ∀ (k : Nat) (v : Value), cs.length ≤ k → cs'[k]? = some v → plainV v = true) :
    μ.le (μ.up i ⟨w.heap.size, 0, n, es⟩) ∧ Sim P (μ.up i ⟨w.heap.size, 0, n, es⟩) (H.lay i ⟨cs, t, es, false⟩) (w.alloc (.cells cs' ty)) B := by
  subst hn
  have hle' := Mu.le_up (l := ⟨w.heap.size, 0, cs'.size, es⟩) (h.hol i hf)
  have old : ∀ {j : Nat} {c : Blk}, (H.lay i ⟨cs, t, es, false⟩).get j = some c → (j = i ∧ c = ⟨cs, t, es, false⟩) ∨ (j ≠ i ∧ H.get j = some c) := by
    intro j c hc
    by_cases e : j = i
    · subst e; rw [get_lay_self hf.lt] at hc; cases hc; exact .inl ⟨rfl, rfl⟩
    · rw [get_lay_ne e] at hc; exact .inr ⟨e, hc⟩
  refine ⟨hle', by have := h.base; simp; omega, ?_, ?_, ?_, ?_, h.oth.keep hle' (fun _ _ => oth_lay_inv) (fun b x hb _ => (Go.RowKit.Below.heap_alloc _ _ _ (Array.getElem?_eq_some_iff.1 hb).1).trans hb), fun k hk => by obtain ⟨h1, h2⟩ := hole_set (by simp) hk; rw [Mu.up_ne h2]; exact h.hol k h1⟩
  · intro j b hb
    rcases old hb with ⟨rfl, rfl⟩ | ⟨e, hb⟩
    · have hrow : (w.heap.push (.cells cs' ty (0, 0)))[w.heap.size]? = some (.cells cs' ty (0, 0)) := by simp
      refine ⟨_, Mu.up_self, rfl, h1c, (fun _ cs2 ty2 fz2 h2 k v hk hv2 => ?_), cs', ty, (0, 0), ?_, rfl, fun _ => rfl, by simpa using hle, ?_⟩
      · have h2' : (w.heap.push (.cells cs' ty (0, 0)))[w.heap.size]? = some (.cells cs2 ty2 fz2) := h2
        rw [hrow] at h2'; cases h2'
        exact hsp k v (by simpa using hk) hv2
      · show (w.heap.push _)[w.heap.size]? = _; simp
      · simpa using hv.mono hle'
    · obtain ⟨l, h1, h2⟩ := h.ok j b hb
      refine ⟨l, hle' _ _ h1, (h2.mono hle').heap ?_⟩
      exact Go.RowKit.Below.heap_alloc _ _ _ h2.lt
  · intro j hj
    rw [lay_len] at hj
    have := hf.lt
    rw [Mu.up_ne (by omega)]; exact h.dom j hj
  · intro j k b c l m hb hc hl hm hjk hro
    rcases old hb with ⟨rfl, rfl⟩ | ⟨e, hb1⟩ <;> rcases old hc with ⟨rfl, rfl⟩ | ⟨e2, hc1⟩
    · exact absurd rfl hjk
    · rw [Mu.up_self] at hl; cases hl
      rw [Mu.up_ne e2] at hm
      obtain ⟨m', em, k'⟩ := h.ok _ _ hc1
      rw [hm] at em; cases em
      have := k'.lt; show w.heap.size ≠ m.b; omega
    · rw [Mu.up_self] at hm; cases hm
      rw [Mu.up_ne e] at hl
      obtain ⟨l', em, k'⟩ := h.ok _ _ hb1
      rw [hl] at em; cases em
      have := k'.lt; show l.b ≠ w.heap.size; omega
    · rw [Mu.up_ne e] at hl
      rw [Mu.up_ne e2] at hm
      exact h.inj j k b c l m hb1 hc1 hl hm hjk hro
  · intro j b l hb hro hl
    rcases old hb with ⟨rfl, rfl⟩ | ⟨e, hb⟩
    · rw [Mu.up_self] at hl; cases hl; exact h.base
    · rw [Mu.up_ne e] at hl; exact h.own j b l hb hro hl

theorem amakeSlice_fill {i0 : Nat} {v0 : Value} {H0 : Heap} {t : TypeId} {l c l' c' : Value} (hS : Sim P μ H w B) (hfr : Free H i0) (hl : VR μ l l') (hc : VR μ c c') (h : amakeSlice P t l c [] = some (v0, H0)) :
    ∃ n m b, v0 = .slice (some ⟨0, 0, none⟩) n m ∧ H0 = [.blk b] ∧ Told P μ (.slice (some ⟨i0, 0, none⟩) n m) (H.lay i0 b) w B ((Instr.makeSlice t l' c').run P w) := by
  unfold amakeSlice at h
  split at h
  · rename_i elem k a k' b hu
    obtain rfl := hl.int
    obtain rfl := hc.int
    split at h
    · rename_i size bytes z hz hb hzv
      split at h
      · rename_i hcond
        obtain ⟨h0, hab, hbmax, hbytes, hsize⟩ := hcond
        cases h
        obtain ⟨i, hi, hib⟩ := bytes_info hb
        obtain ⟨_, hzc, n, hn, hzn⟩ := run_zero hzv w
        rw [hz] at hn; cases hn
        have w1 : IntKind.i64.wrap a = a := by rw [IntKind.wrap_i64]; omega
        have w2 : IntKind.i64.wrap b = b := by rw [IntKind.wrap_i64]; omega
        have hsz : (0 : Nat) < size := by omega
        have hne : b.toNat * size = 0 ↔ b.toNat = 0 := by simp [Nat.mul_eq_zero]; omega
        have hmul : (i.bytes : Int) * b ≤ 17592186044416 := by
          have h1 : (i.bytes : Int) ≤ 4096 := by omega
          have h2 : 0 ≤ b := by omega
          calc (i.bytes : Int) * b ≤ 4096 * b := Int.mul_le_mul_of_nonneg_right h1 h2
            _ ≤ 17592186044416 := by omega
        have hrow : ∃ cs' : Array Value, cs'.toList = zeros z.cells.toList b.toNat ∧ (Instr.makeSlice t (.int k a) (.int k' b)).run P w = .ok (.slice (some ⟨w.heap.size, 0, none⟩) a.toNat b.toNat) (w.alloc (.cells cs' elem)) := by
          have hlarge : ¬ (b < 0 ∨ (281474976710656 : Int) < (i.bytes : Int) * b) := by omega
          by_cases hb0 : b.toNat = 0
          · refine ⟨(Array.range 0).map (fun _ => default), by simp [hb0, zeros], ?_⟩
            have : b = 0 := by omega
            subst this
            have : a = 0 := by omega
            subst this
            simp [Instr.makeSlice, run_underlying hu, asInt, asIntOf, run_info hi, IntKind.wrap_i64, run_sz hz, newRow]
          · refine ⟨(Array.range (b.toNat * size)).map (fun i => z.cells[i % z.cells.size]!), by rw [← zeros_arr _ _ (by omega), hzn], ?_⟩
            have hbl : ¬ (a < 0 ∨ b < a) := by omega
            simp [Instr.makeSlice, run_underlying hu, asInt, asIntOf, run_info hi, w1, w2, run_sz hz, newRow, (run_zero hzv _).1]
            rw [if_neg (by rintro (((h | h) | h) | h) <;> omega), if_neg (fun e => hb0 (hne.1 e))]
        obtain ⟨cs', e, hrun⟩ := hrow
        rw [hrun]
        have hlen : cs'.size = b.toNat * size := by
          have := congrArg List.length e
          rw [zeros_length] at this; simp at this; rw [this, hzn]
        obtain ⟨h1, h2⟩ := hS.fill hfr (zeros z.cells.toList b.toNat) elem elem size cs' cs'.size rfl (zeros_one hzc _) (by rw [← e]; simp) (by rw [← e, List.take_length, e]; exact zeros_rel hzc _) (fun k v hk hv => by have := (Array.getElem?_eq_some_iff.1 hv).1; rw [← e] at hk; simp at hk; omega)
        refine ⟨a.toNat, b.toNat, _, rfl, rfl, _, _, _, rfl, h1, ?_, h2, (Bel.refl _ _).alloc hS.base _⟩
        have := VR.slice (μ := μ.up i0 ⟨w.heap.size, 0, cs'.size, size⟩) i0 0 a.toNat b.toNat b.toNat _ Mu.up_self (by omega) (Nat.le_refl _) (by simp [hlen])
        simpa using this
      · cases h
    · cases h
  · cases h

theorem abuildSlice_fill {i0 : Nat} {v0 : Value} {H0 : Heap} {t : TypeId} {n : Nat} {ps ps' : List (Nat × Value)} (hS : Sim P μ H w B) (hfr : Free H i0) (h1 : ps.map (·.1) = ps'.map (·.1)) (h2 : VRs μ (ps.map (·.2)) (ps'.map (·.2)))
    (h : abuildSlice P t n ps [] = some (v0, H0)) : ∃ b, H0 = [.blk b] ∧ Told P μ (.slice (some ⟨i0, 0, none⟩) n n) (H.lay i0 b) w B ((Instr.buildSlice t n ps'.toArray).run P w) := by
  unfold abuildSlice at h
  split at h
  · cases h
  · rename_i hk
    have hk1 : ps.all (fun p => p.2.cells.toList.all oneCell) = true := by simpa using hk
    have hk : ps.all (fun p => known p.2) = true := by
      rw [List.all_eq_true] at hk1 ⊢
      intro p hp
      have := hk1 p hp
      revert this
      cases p.2 <;> simp [Value.cells, oneCell, known]
    split at h
    · rename_i elem hu
      split at h
      · rename_i size z hs hz
        split at h
        · rename_i hc
          simp only [Bool.and_eq_true, decide_eq_true_eq, ne_eq] at hc
          obtain ⟨hmax, hsz⟩ := hc
          obtain ⟨hzr, hzc, m, hm, hzn⟩ := run_zero hz w
          rw [hs] at hm; cases hm
          cases hf : Instr.fill (fun i => some (i * size, size)) (zeros z.cells.toList n).toArray ps with
          | none => rw [hf] at h; cases h
          | some cs =>
            rw [hf] at h
            cases h
            obtain ⟨cs', hf', hv⟩ := fill_sound (cs' := (zeros z.cells.toList n).toArray) _ (by simpa using zeros_rel hzc n) h1 h2 hk hf
            have hlen : cs'.size = n * size := by
              rw [fill_size _ hf']; simp [zeros_length, hzn]
            have hrun : (Instr.buildSlice t n ps'.toArray).run P w = .ok (.slice (some ⟨w.heap.size, 0, none⟩) n n) (w.alloc (.cells cs' elem)) := by
              have hsz' : (0 : Nat) < size := Nat.pos_of_ne_zero (by simpa using hsz)
              have hbig : ¬ (n * size > 2 ^ 24) := by simpa using hmax
              by_cases h0 : n = 0
              · subst h0
                have e : (zeros z.cells.toList 0).toArray = (Array.range (0 * size)).map (fun i => (#[] : Array Value)[i % (#[] : Array Value).size]!) := by simp [zeros]
                rw [e] at hf'
                simp only [Instr.buildSlice, Sem.run_bind, run_underlying hu, run_sz hs, Result.andThen_ok, Sem.run_ite, Sem.run_pure, Nat.zero_mul, if_true]
                simp only [Nat.zero_mul] at hf'
                simp only [hf']
                rfl
              · have hne : ¬ n * size = 0 := by simp [Nat.mul_eq_zero]; omega
                have e : (zeros z.cells.toList n).toArray = (Array.range (n * size)).map (fun i => z.cells[i % z.cells.size]!) := by
                  rw [← zeros_arr _ _ (by omega), hzn]
                rw [e] at hf'
                simp only [Instr.buildSlice, Sem.run_bind, run_underlying hu, run_sz hs, Result.andThen_ok, Sem.run_ite, hbig, if_false, Sem.run_pure, hne, hzr, hf']
                rfl
            rw [hrun]
            obtain ⟨g1, g2⟩ := hS.fill hfr cs.toList elem elem size cs' cs'.size rfl (fill_one _ (by simpa using zeros_one hzc n) hk1 hf) (by have := hv.1; simp at this ⊢; omega) (by rw [hv.1, List.take_length]; exact hv) (fun k v hk hv2 => by have := hv.1; have := (Array.getElem?_eq_some_iff.1 hv2).1; simp at *; omega)
            refine ⟨_, rfl, _, _, _, rfl, g1, ?_, g2, (Bel.refl _ _).alloc hS.base _⟩
            have := VR.slice (μ := μ.up i0 ⟨w.heap.size, 0, cs'.size, size⟩) i0 0 n n n _ Mu.up_self (Nat.le_refl _) (Nat.le_refl _) (by simp [hlen])
            simpa using this
        · cases h
      · cases h
    · cases h


/-- A laying. -/
theorem afill_sound {i : Nat} {ρ ρ' : Operand → Value} {o : Oper} {v : Value} (hS : Sim P μ H w B) (hρ : ∀ x, VR μ (ρ x) (ρ' x)) (h : afill P ρ i H o.op = some (v, H')) :
    ToldN P μ v H' w B ((execOp ρ' o).run P w) := by
  obtain ⟨dst, op, type, pos, after, guard⟩ := o
  simp only at h
  unfold afill at h
  split at h
  case h_2 => cases h
  rename_i hf
  split at h
  case h_2 => cases h
  rename_i mk b hb
  cases h
  unfold fillB at hb
  split at hb <;> (unfold execOp; try simp only)
  · -- alloc
    rename_i t
    split at hb
    · rename_i z hz
      obtain ⟨hzr, hzc, _⟩ := run_zero hz w
      cases hb
      have h1c := closed_one hzc
      have hrel := closed_list (μ := μ) hzc
      obtain ⟨h1, h2⟩ := hS.fill hf z.cells.toList t t 1 z.cells z.cells.size rfl h1c (by simp) (by rw [List.take_of_length_le (by simp)]; exact hrel) (fun k v hk hv => by have := (Array.getElem?_eq_some_iff.1 hv).1; simp at hk; omega)
      refine Told.next ?_
      have e : (Instr.alloc t true (.tuple #[])).run P w = .ok (.pointer (some ⟨w.heap.size, 0, none⟩)) (w.alloc (.cells z.cells t)) := by
        simp [Instr.alloc, hzr, newVar, newRow]
      rw [e]
      refine ⟨_, _, _, rfl, h1, ?_, h2, (Bel.refl _ _).alloc hS.base _⟩
      have := VR.ptr (μ := μ.up i ⟨w.heap.size, 0, z.cells.size, 1⟩) i 0 _ Mu.up_self
      simpa using this
    · cases hb
  · -- buildSlice
    rename_i t n ps
    split at hb
    · rename_i v0 b0 h0
      cases hb
      obtain ⟨b1, e1, hT⟩ := abuildSlice_fill (P := P) hS hf (parts_fst (ρ' := ρ') ps.toList) (VRs.parts hρ ps.toList) h0
      cases e1
      have e : (ps.map fun (i, x) => (i, ρ' x)) = (ps.toList.map fun (i, x) => (i, ρ' x)).toArray := by
        rw [← Array.toList_inj]; simp
      simp only [e]
      exact hT.next
    · cases hb
  · -- makeSlice
    rename_i t l c
    split at hb
    · rename_i a0 n0 m0 b0 h0
      cases hb
      obtain ⟨n1, m1, b1, e1, e2, hT⟩ := amakeSlice_fill (P := P) hS hf (hρ _) (hρ _) h0
      cases e1
      cases e2
      exact hT.next
    · cases hb
  · cases hb
end Go.Proofs.YtgakioiplkehgaaA.Am
