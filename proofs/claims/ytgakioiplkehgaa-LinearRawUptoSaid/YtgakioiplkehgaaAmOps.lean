/-
Each operation but a call: what the abstract machine tells of it, the model's run comes to.
-/
import Derived.Test.YtgakioiplkehgaaAmHeap
namespace Go.Proofs.YtgakioiplkehgaaA.Am
open Go.RowKit (Below)
variable {P : Program} {μ : Mu} {H H' : Heap} {w : World} {B : Nat}

theorem run_sz {t : TypeId} {n : Nat} (h : szOf P t = some n) (w : World) : (sizeOf t).run P w = .ok n w := by
  unfold szOf at h
  cases hi : P.info? t with
  | none => rw [hi] at h; cases h
  | some i => rw [hi] at h; cases h; simp [sizeOf, typeInfo, hi]
theorem run_info {t : TypeId} {i : TypeInfo} (h : P.info? t = some i) (w : World) : (typeInfo t).run P w = .ok i w := by simp [typeInfo, h]
theorem bytes_info {t : TypeId} {n : Nat} (h : bytesOfT P t = some n) : ∃ i, P.info? t = some i ∧ i.bytes = n := by
  unfold bytesOfT at h
  cases hi : P.info? t with
  | none => rw [hi] at h; cases h
  | some i => rw [hi] at h; cases h; exact ⟨i, rfl, rfl⟩
theorem run_agg {t : TypeId} {b : Bool} (h : aggQ P t = some b) (w : World) : (isAgg t).run P w = .ok b w := by
  unfold aggQ at h
  cases hi : P.underlying t with
  | none => rw [hi] at h; cases h
  | some d =>
    rw [hi] at h
    unfold isAgg
    cases d <;> simp at h <;> subst h <;> simp [run_underlying hi]
theorem run_zero {t : TypeId} {z : Value} (h : zeroOf P t = some z) (w : World) : (zeroValue t).run P w = .ok z w ∧ closedV z = true ∧ ∃ n, szOf P t = some n ∧ z.cells.size = n := by
  unfold zeroOf at h
  cases hi : P.info? t with
  | none => rw [hi] at h; cases h
  | some i =>
    rw [hi] at h
    simp only [Option.bind_some] at h
    cases hz : i.zero with
    | none => rw [hz] at h; cases h
    | some z' =>
      rw [hz] at h
      simp only at h
      split at h
      · rename_i hc
        cases h
        simp only [Bool.and_eq_true, beq_iff_eq] at hc
        refine ⟨by simp [zeroValue, typeInfo, hi, hz], hc.1, i.size, by simp [szOf, hi], hc.2⟩
      · cases h

theorem ldVar_sound {t : TypeId} {p p' v : Value} (hS : Sim P μ H w B) (hp : VR μ p p') (h : ldVar P t p H = some v) :
    ∃ v', (Instr.loadAt t p').run P w = .ok v' w ∧ VR μ v v' := by
  unfold ldVar at h
  split at h
  · rename_i i off
    obtain ⟨i', off', l, e, hl, rfl⟩ := hp.ptr_inv
    cases e
    have hsa : ∀ w, (Instr.sureAddr (.pointer (some ⟨l.b, l.o + off, none⟩))).run P w = .ok ⟨l.b, l.o + off, none⟩ w := fun _ => rfl
    split at h
    · rename_i ha
      cases hz : szOf P t with
      | none => rw [hz] at h; cases h
      | some n =>
        rw [hz] at h
        simp only at h
        cases hc : ldCells H i off n with
        | none => rw [hc] at h; cases h
        | some vs =>
          rw [hc] at h; cases h
          obtain ⟨hlen, vs', hv, hcell⟩ := hS.ldCells hl hc
          have hlen' : vs'.length = n := by rw [← hv.1]; exact hlen
          refine ⟨.agg vs'.toArray, ?_, hv.agg_list⟩
          have hr := run_loadCells_list (P := P) w ⟨l.b, l.o + off, none⟩ vs' hcell
          rw [hlen'] at hr
          simp [Instr.loadAt, hsa, loadVar, run_agg ha, run_sz hz, hr]
    · rename_i ha
      cases hb : H.get i with
      | none => rw [hb] at h; cases h
      | some b =>
        rw [hb] at h
        obtain ⟨v', hc, hv⟩ := hS.ld hb hl h
        exact ⟨v', by simp [Instr.loadAt, hsa, loadVar, run_agg ha, hc], hv⟩
    · cases h
  · cases h

theorem stVar_sound {t : TypeId} {p p' v v' : Value} (hS : Sim P μ H w B) (hp : VR μ p p') (hv : VR μ v v') (h : stVar P t p v H = some H') :
    ∃ w', (Instr.storeAt t p' v').run P w = .ok () w' ∧ Sim P μ H' w' B ∧ Bel B w w' := by
  unfold stVar at h
  split at h
  · rename_i i off
    obtain ⟨i', off', l, e, hl, rfl⟩ := hp.ptr_inv
    cases e
    have hsa : ∀ w, (Instr.sureAddr (.pointer (some ⟨l.b, l.o + off, none⟩))).run P w = .ok ⟨l.b, l.o + off, none⟩ w := fun _ => rfl
    cases hz : szOf P t with
    | none => rw [hz] at h; cases h
    | some n =>
      rw [hz] at h
      simp only at h
      split at h
      · rename_i hc
        have hcs := VRs.cells hv hc.2
        obtain ⟨w', hr, hS', hB⟩ := hS.st hl h hcs
        have hn : v'.cells.size = n := by have := hcs.1; simp at this; omega
        exact ⟨w', by simp [Instr.storeAt, hsa, storeVar, run_sz hz, hn, hr], hS', hB⟩
      · cases h
  · cases h

theorem apart_sound {t : TypeId} {cs cs' : Array Value} {off : Nat} {v : Value} (hc : VRs μ cs.toList cs'.toList) (h : Am.apart P t cs off = some v) (w : World) :
    ∃ v', (part t cs' off).run P w = .ok v' w ∧ VR μ v v' := by
  unfold Am.apart at h
  split at h
  · rename_i ha
    cases hz : szOf P t with
    | none => rw [hz] at h; cases h
    | some n =>
      rw [hz] at h; cases h
      refine ⟨.agg (cs'.extract off (off + n)), by simp [part, run_agg ha, run_sz hz], VRs.agg ?_⟩
      have := (hc.drop off).take n
      simpa [List.take_drop, Nat.add_comm] using this
  · rename_i ha
    obtain ⟨v', e, r⟩ := hc.2 off v (by simpa using h)
    exact ⟨v', by simp [part, run_agg ha, show cs'[off]? = some v' by simpa using e], r⟩
  · cases h

end Go.Proofs.YtgakioiplkehgaaA.Am
