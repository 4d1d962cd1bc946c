/- NodeBegin over the abstract machine. -/
import Derived.Test.YtpenlcigickkbaaNode
import Derived.Test.YtpenlcigickkbaaKnown
import Derived.Test.YtpenlcigickkbaaFunNodeBegin
namespace Go.Proofs.Ytpenlcigickkbaa.Fun
open Go.RowKit Go.Proofs.YtpenlcigickkbaaA.Am
set_option linter.unusedVariables false
set_option linter.unusedSimpArgs false
theorem blT : Try.prog.underlying 4 = some .bool := by kernel_rfl
theorem NodeBegin_run {H : Heap} {v : Value} {w : List Int} (hv : IntsR H o0 (-1) v w) (a : Int) (ha : W64 a) : ∃ n H', run (knownG ks) n 10 [cv a, v] H = some (.bool true, H') := by
  refine ⟨100001, ?_⟩
  rw [F10_eq]
  have hk := fun H => known_runs 36 (by decide) 99999 H
  have hcut := Cut_runs (G := knownG ks) 99999 a 20 ha (by omega) H
  have hb1 := Int.emod_nonneg a (show (20 : Int) ≠ 0 by omega)
  have hb2 := Int.emod_lt_of_pos a (show (0 : Int) < 20 by omega)
  generalize a % 20 = r at hcut hb1 hb2
  have hw1 : IntKind.i64.wrap (1 + r) = 1 + r := w64 (by omega)
  obtain ⟨H1, e1, m1, f1⟩ := New_runs (G := knownG ks) (H := H) o0 (1 + r) (by omega) 99999
  have v1 := hv.fr f1 (by simp)
  have hvl := v1.1.len
  by_cases hl : (w.length : Int) > 50
  · refine ⟨H1, ?_⟩
    simp -implicitDefEqProofs [-gt_iff_lt, F10, hcut, add_int, hw1, e1, ext_i, ptr_eql_nil _ ptM, ptr_neq_nil _ ptM, neq_int, pick_bool, hvl, gtr_int, hl, hk]
  obtain ⟨H2, o2, e2, m2, f2⟩ := Make_runs (G := knownG ks) m1 v1 (by omega) (by simp [MV.fresh]; omega) (by simp [MV.fresh]; omega) (by omega) 99999
  have hmax : ((MV.fresh (1 + r)).made w).max = 1 + r := made_max _ _
  obtain ⟨s3, H3, o3, e3, c3, f3⟩ := Cells_runs (G := knownG ks) m2 (-2) 99998
  have m3 := m2.fr f3 (by simp)
  by_cases hroom : (MV.fresh (1 + r)).room w.length = true
  · -- used
    have hcs : ((MV.fresh (1 + r)).made w).cs = w := by unfold MV.made; rw [hroom]; rfl
    have hne : w ≠ [] := by rintro rfl; simp [MV.room] at hroom
    have e4 := Begin_bad (G := knownG ks) m3 (by rw [hcs]; exact fun h => hne h.1) 99987
    rw [hroom] at e2
    obtain ⟨s5, H5, o5, e5, c5, f5⟩ := Cells_runs (G := knownG ks) m3 (-3) 99998
    have e6 := Words_runs (G := knownG ks) c5.ints.1 (c3.ints.fr f5 (by simp)).1 m3.fits 34462
    refine ⟨H5, ?_⟩
    simp -implicitDefEqProofs [-gt_iff_lt, F10, hcut, add_int, hw1, e1, ext_i, ptr_eql_nil _ ptM, neq_int, pick_bool, hvl, gtr_int, hl, hk, e2, e3, e4, not_bool, bool_neq _ _ blT, e5, e6]
  · have hroom' : (MV.fresh (1 + r)).room w.length = false := by simpa using hroom
    have hcs : ((MV.fresh (1 + r)).made w).cs = [] := by unfold MV.made; rw [hroom']; rfl
    rw [hroom'] at e2
    by_cases h7 : 1 + r ≥ 7
    · obtain ⟨H4, o4, e4, m4, f4⟩ := Begin_runs (G := knownG ks) m3 hcs (by rw [hmax]; omega) 99987
      generalize hM : ((MV.fresh (1 + r)).made w).begun = M at m4
      have hM' : M.cs = [1, 0, 0, 0, 0, 57, 0] := by rw [← hM]; rfl
      have a6 := At_runs (G := knownG ks) m4 6 99999
      have u4 := Used_runs (G := knownG ks) m4 99999
      have a1 := At_runs (G := knownG ks) m4 1 99999
      have x6 : M.at 6 = 57 := by unfold MV.at; rw [hM']; rfl
      have x1 : M.at 1 = 1 := by unfold MV.at; rw [hM']; rfl
      rw [x6] at a6; rw [x1] at a1
      have hlen : (M.cs.length : Int) = 7 := by rw [hM']; rfl
      rw [hlen] at u4
      obtain ⟨H5, o5, e5, f5⟩ := ChildAt_runs (G := knownG ks) (H := H4) (o := o4) 1 1 0 99967
      have hc : childAtI 1 1 0 = 6 := by decide
      rw [hc] at e5
      have m5 := m4.fr f5 (by simp)
      have k5 := Kind_runs (G := knownG ks) 99997 57 (by omega) H5
      have t5 := RAt_runs (G := knownG ks) 99997 57 (by omega) H5
      have y1 : kindI 57 = 1 := by decide
      have y2 : atI 57 = 7 := by decide
      rw [y1] at k5; rw [y2] at t5
      have e6 := Begin_bad (G := knownG ks) m5 (by rw [hM']; simp) 99987
      have u5 := Used_runs (G := knownG ks) m5 99999
      rw [hlen] at u5
      refine ⟨H5, ?_⟩
      simp -implicitDefEqProofs [-gt_iff_lt, -ge_iff_le, F10, hcut, add_int, hw1, e1, ext_i, ptr_eql_nil _ ptM, neq_int, pick_bool, hvl, gtr_int, hl, hk, e2, e3, e4, not_bool, geq_int, h7, bool_neq _ _ blT, a6, u4, eql_int, a1, e5, k5, t5, e6, u5]
    · have e4 := Begin_bad (G := knownG ks) m3 (by rw [hmax]; omega) 99987
      obtain ⟨s5, H5, o5, e5, c5, f5⟩ := Cells_runs (G := knownG ks) m3 (-3) 99998
      have e6 := Words_runs (G := knownG ks) c5.ints.1 (c3.ints.fr f5 (by simp)).1 m3.fits 34462
      refine ⟨H5, ?_⟩
      simp -implicitDefEqProofs [-gt_iff_lt, -ge_iff_le, F10, hcut, add_int, hw1, e1, ext_i, ptr_eql_nil _ ptM, neq_int, pick_bool, hvl, gtr_int, hl, hk, e2, e3, e4, not_bool, geq_int, h7, bool_neq _ _ blT, e5, e6]
end Go.Proofs.Ytpenlcigickkbaa.Fun
namespace Go.Proofs.Ytpenlcigickkbaa.Pure
open Go.RowKit Go.Proofs.YtpenlcigickkbaaA.Am Fun
theorem NodeBegin_law : Law Try.prog 10 [3, 28] := law_of fun H args hr hi => by
  obtain ⟨v0, _, rfl, h0, v1, _, rfl, h1, rfl⟩ := hi
  obtain ⟨a, rfl, ha⟩ := h0.int (show Try.prog.underlying 3 = _ from by kernel_rfl)
  obtain ⟨w, hv, _, _⟩ := h1.ints slI (show Try.prog.underlying 2 = _ from by kernel_rfl) (by kernel_rfl)
  exact NodeBegin_run hv a ha
end Go.Proofs.Ytpenlcigickkbaa.Pure
