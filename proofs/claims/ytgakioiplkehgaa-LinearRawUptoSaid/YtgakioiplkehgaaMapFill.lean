
/- What the laws of chapter 4 share: known, fill. -/
import Derived.Test.YtgakioiplkehgaaFun1
import Derived.Test.YtgakioiplkehgaaOmap3
namespace Go.Proofs.Ytgakioiplkehgaa.Fun
open Go Go.RowKit Go.Proofs.YtgakioiplkehgaaA.Am
set_option linter.unusedVariables false
set_option linter.unusedSimpArgs false
set_option linter.unnecessarySimpa false
/-- A map of the first n keys, each with its place. -/
def fillTo (keys : List Int) : Nat → PL
  | 0 => []
  | i + 1 => mput (fillTo keys i) (keys.getD i 0) i
theorem fillTo_len (keys : List Int) : ∀ i, (fillTo keys i).length ≤ i
  | 0 => Nat.le_refl _
  | i + 1 => by
    have h1 := fillTo_len keys i
    have h2 := len_mput (fillTo keys i) (keys.getD i 0) i
    show (mput _ _ _).length ≤ _
    rw [h2]; split <;> omega
theorem fillTo_asc (keys : List Int) : ∀ i, Asc (keysOf (fillTo keys i))
  | 0 => .nil
  | i + 1 => asc_mput (fillTo_asc keys i) _ _
theorem abM0 : abuild Try.prog 51 [] = some (.agg #[.slice none 0 0, .slice none 0 0]) := by kernel_rfl
theorem boxM (t : TypeId) (H : Heap) : boxS t (.agg #[.slice none 0 0, .slice none 0 0]) H = some (pv H.length, H.new ⟨[.slice none 0 0, .slice none 0 0], t, 1, false⟩) := by
  simp [boxS, Value.cells, oneCell, newBlk]
/-- A new map. -/
theorem MapR.fresh (H : Heap) (o : Owner) (t : TypeId) : MapR (H.new ⟨[.slice none 0 0, .slice none 0 0], t, 1, false⟩) (o.up H.length H.length) H.length [] :=
  ⟨⟨_, _, none, none, t, get_new, ⟨rfl, rfl⟩, ⟨rfl, rfl⟩, by simp, by simp, by simp⟩, up_self, .nil, by simp⟩
section
variable {H : Heap} {o : Owner} {n : Nat}
theorem Cut_runs {G : Oracle} (n : Nat) (a k : Int) (ha : -9223372036854775808 ≤ a ∧ a ≤ 9223372036854775807) (hk : 0 < k ∧ k ≤ 4611686018427387904) (H : Heap) : run G (n + 1) 9 [cv a, cv k] H = some (cv (a % k), H) := by
  rw [F9_eq]
  have h0 : k ≠ 0 := by omega
  have h1 := Int.emod_nonneg a h0
  have h2 := Int.emod_lt_of_pos a hk.1
  have e : a.tmod k = if 0 ≤ a ∨ a % k = 0 then a % k else a % k - k := by
    rw [Int.tmod_eq_emod]
    by_cases h : 0 ≤ a ∨ k ∣ a
    · have h' : 0 ≤ a ∨ a % k = 0 := h.imp id (fun h => Int.emod_eq_zero_of_dvd h)
      simp [h, h']
    · have h' : ¬ (0 ≤ a ∨ a % k = 0) := fun hh => h (hh.imp id (fun h => Int.dvd_of_emod_eq_zero h))
      simp only [h, h', if_false]; rw [Int.natAbs_of_nonneg (by omega)]
  by_cases hc : 0 ≤ a ∨ a % k = 0
  · have e2 : ¬ (a % k < 0) := by omega
    simp -implicitDefEqProofs [F9, F9_j0_v, F9_j0v, rem_int _ _ _ h0, e, hc, lss_int, e2]
  · have e2 : (a % k - k < 0) := by omega
    have e3 : IntKind.i64.wrap (a % k) = a % k := w64 (by omega)
    simp -implicitDefEqProofs [F9, F9_j0_v, F9_j0v, rem_int _ _ _ h0, e, hc, lss_int, e2, add_int, e3]

end
end Go.Proofs.Ytgakioiplkehgaa.Fun
