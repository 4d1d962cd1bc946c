/- MemOdd over the abstract machine. -/
import Derived.Test.YtpenlcigickkbaaRef
import Derived.Test.YtpenlcigickkbaaKnown
import Derived.Test.YtpenlcigickkbaaFunMemOdd
namespace Go.Proofs.Ytpenlcigickkbaa.Fun
open Go.RowKit Go.Proofs.YtpenlcigickkbaaA.Am
set_option linter.unusedVariables false
set_option linter.unusedSimpArgs false
theorem MemOdd_run {H : Heap} {v : Value} {w : List Int} (hv : IntsR H o0 (-1) v w) (a x y : Int) (ha : W64 a) : ∃ n H', run (knownG ks) n 4 [v, cv a, cv x, cv y] H = some (.bool true, H') := by
  refine ⟨100001, ?_⟩
  rw [F4_eq]
  have hk := fun H => known_runs 19 (by decide) 99999 H
  by_cases hl : (w.length : Int) > 200
  · exact ⟨H, by simp -implicitDefEqProofs [-gt_iff_lt, F4, F4_j0_v, F4_j0v, hv.1.len, gtr_int, hl, hk]⟩
  · obtain ⟨H1, e1, m1, f1⟩ := New_runs (G := knownG ks) (H := H) o0 300 (by omega) 99999
    obtain ⟨H2, o2, e2, m2, f2⟩ := Make_runs (G := knownG ks) m1 (hv.fr f1 (by simp)) (by omega) (by simp [MV.fresh]) (by simp [MV.fresh]) (by omega) 99999
    have hcs := made_cs 300 w (by omega)
    have key : ∀ a', ¬ (1 ≤ a' ∧ a' ≤ (w.length : Int)) → ∃ H', ∀ v8 v18 v10 v29 v40 v13 v14 v15 v11 v12 : Value, F4_j0 (run (knownG ks) 100000) 100000 [v, cv a', cv x, cv y, v8, v18, pv H.length, v10, v29, v40, v13, v14, v15, v11, v12] H2 = some (.bool true, H') := by
      intro a' ha'
      have ho : ((MV.fresh 300).made w).odd = 0 := made_odd _ _
      have hc : ((MV.fresh 300).made w).cnt = 1 := made_cnt _ _
      generalize (MV.fresh 300).made w = M2 at m2 hcs ho hc
      have q2 : ¬ (1 ≤ a' ∧ a' ≤ (M2.cs.length : Int)) := by rw [hcs]; exact ha'
      obtain ⟨H3, e3, m3, f3⟩ := Write_runs (G := knownG ks) m2 a' x 99998
      rw [wrote_out q2] at m3
      obtain ⟨H4, e4, m4, f4⟩ := Cas_runs (G := knownG ks) m3 a' 0 y 99998
      rw [cas_out (M := M2.oddly) q2] at m4
      rw [fit_out (M := M2.oddly) q2] at e4
      obtain ⟨H5, e5, m5, f5⟩ := Add_runs (G := knownG ks) m4 a' x 99998
      rw [added_out (M := M2.oddly.oddly) q2] at m5
      rw [at_out M2.oddly.oddly _ q2] at e5
      obtain ⟨H6, e6, m6, f6⟩ := Read_runs (G := knownG ks) m5 a' 99998
      rw [seen_out (M := M2.oddly.oddly.oddly) q2] at m6
      rw [at_out M2.oddly.oddly.oddly _ q2] at e6
      obtain ⟨s7, H7, o7, e7, c7, f7⟩ := Cells_runs (G := knownG ks) m6 (-2) 99998
      have m7 := m6.fr f7 (by simp)
      have v7 := ((((((hv.fr f1 (by simp)).fr f2 (nm (by omega) _)).fr f3 (nm (by omega) _)).fr f4 (nm (by omega) _)).fr f5 (nm (by omega) _)).fr f6 (nm (by omega) _)).fr f7 (by simp)
      have e8 := Words_runs (G := knownG ks) c7.ints.1 v7.1 (by show M2.cs.length ≤ 65536; rw [hcs]; omega) 34462
      have e9 := At_runs (G := knownG ks) m7 a' 99999
      rw [at_out M2.oddly.oddly.oddly.oddly _ q2] at e9
      have o2 := Odd_runs (G := knownG ks) m2 99999
      have c2 := Count_runs (G := knownG ks) m2 99999
      have o6 := Odd_runs (G := knownG ks) m6 99999
      have c6 := Count_runs (G := knownG ks) m6 99999
      have o7 := Odd_runs (G := knownG ks) m7 99999
      have eo : M2.oddly.oddly.oddly.oddly.odd = 4 := by simp only [MV.oddly, ho]; decide
      have ec : M2.oddly.oddly.oddly.oddly.cnt = 5 := by simp only [MV.oddly, hc]; decide
      have es : M2.oddly.oddly.oddly.oddly.cs = w := hcs
      rw [ho] at o2; rw [hc] at c2; rw [eo] at o6 o7; rw [ec] at c6
      rw [es] at e8
      refine ⟨H7, fun v8 v18 v10 v29 v40 v13 v14 v15 v11 v12 => ?_⟩
      have w4 : IntKind.i64.wrap 4 = 4 := by decide
      have w5 : IntKind.i64.wrap 5 = 5 := by decide
      simp -implicitDefEqProofs [F4, F4_j0_v, F4_j0v, e3, e4, e5, e6, e7, e8, e9, o2, c2, o6, c6, o7, hk, eql_int, add_int, not_bool, pick_bool, w4, w5]
    have ha' : W64 a := ha
    by_cases hin : 1 ≤ a ∧ a ≤ (w.length : Int)
    · obtain ⟨H', hj⟩ := key (a + 300) (by omega)
      have hw : IntKind.i64.wrap (a + 300) = a + 300 := w64 (by omega)
      refine ⟨H', ?_⟩
      simp -implicitDefEqProofs [-gt_iff_lt, -ge_iff_le, F4, hv.1.len, gtr_int, hl, hk, e1, e2, ext_i, ptr_eql_nil _ ptM, neq_int, pick_bool, geq_int, leq_int, hin.1, hin.2, add_int, hw, hj]
    · obtain ⟨H', hj⟩ := key a hin
      refine ⟨H', ?_⟩
      by_cases h1 : 1 ≤ a
      · have h2 : ¬ a ≤ (w.length : Int) := by omega
        simp -implicitDefEqProofs [-gt_iff_lt, -ge_iff_le, F4, hv.1.len, gtr_int, hl, hk, e1, e2, ext_i, ptr_eql_nil _ ptM, neq_int, pick_bool, geq_int, leq_int, h1, h2, add_int, hj]
      · simp -implicitDefEqProofs [-gt_iff_lt, -ge_iff_le, F4, hv.1.len, gtr_int, hl, hk, e1, e2, ext_i, ptr_eql_nil _ ptM, neq_int, pick_bool, geq_int, leq_int, h1, add_int, hj]
end Go.Proofs.Ytpenlcigickkbaa.Fun
namespace Go.Proofs.Ytpenlcigickkbaa.Pure
open Go.RowKit Go.Proofs.YtpenlcigickkbaaA.Am Fun
theorem MemOdd_law : Law Try.prog 4 [28, 3, 2, 2] := law_of fun H args hr hi => by
  obtain ⟨v0, _, rfl, h0, v1, _, rfl, h1, v2, _, rfl, h2, v3, _, rfl, h3, rfl⟩ := hi
  obtain ⟨w, hv, _, _⟩ := h0.ints slI (show Try.prog.underlying 2 = _ from by kernel_rfl) (by kernel_rfl)
  obtain ⟨a, rfl, ha⟩ := h1.int (show Try.prog.underlying 3 = _ from by kernel_rfl)
  obtain ⟨x, rfl, _⟩ := h2.int (show Try.prog.underlying 2 = _ from by kernel_rfl)
  obtain ⟨y, rfl, _⟩ := h3.int (show Try.prog.underlying 2 = _ from by kernel_rfl)
  exact MemOdd_run hv a x y ha
end Go.Proofs.Ytpenlcigickkbaa.Pure
