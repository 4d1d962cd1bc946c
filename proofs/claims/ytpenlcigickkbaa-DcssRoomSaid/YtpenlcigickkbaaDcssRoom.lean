/- DcssRoom over the abstract machine. -/
import Derived.Test.YtpenlcigickkbaaFrames
import Derived.Test.YtpenlcigickkbaaKnown
import Derived.Test.YtpenlcigickkbaaFunDcssRoom
namespace Go.Proofs.Ytpenlcigickkbaa.Fun
open Go.RowKit Go.Proofs.YtpenlcigickkbaaA.Am
set_option linter.unusedVariables false
set_option linter.unusedSimpArgs false
theorem DcssRoom_run {H : Heap} (pad old x : Int) (hp : W64 pad) (ho : W64 old) (hx : W64 x) : ∃ n H', run (knownG ks) n 13 [cv pad, cv old, cv x] H = some (.bool true, H') := by
  refine ⟨100001, ?_⟩
  rw [F13_eq]
  have hk := fun H => known_runs 58 (by decide) 99999 H
  have hcut := Cut_runs (G := knownG ks) 99999 pad 9 hp (by omega) H
  have hb1 := Int.emod_nonneg pad (show (9 : Int) ≠ 0 by omega)
  have hb2 := Int.emod_lt_of_pos pad (show (0 : Int) < 9 by omega)
  generalize pad % 9 = r at hcut hb1 hb2
  have hw1 : IntKind.i64.wrap (7 + r) = 7 + r := w64 (by omega)
  obtain ⟨H1, e1, m1, f1⟩ := New_runs (G := knownG ks) (H := H) o0 (7 + r) (by omega) 99999
  obtain ⟨H2, o2, e2, m2, f2⟩ := Begin_runs (G := knownG ks) m1 rfl (by simp [MV.fresh]; omega) 99987
  have k1 := fun H => Kind_runs (G := knownG ks) 99997 old ho.2 H
  have k2 := fun H => Kind_runs (G := knownG ks) 99997 x hx.2 H
  by_cases hk1 : kindI old = 5
  · refine ⟨H2, ?_⟩
    simp -implicitDefEqProofs [F13, hcut, add_int, hw1, e1, ext_i, ptr_eql_nil _ ptM, neq_int, pick_bool, e2, not_bool, k1, eql_int, hk1, hk]
  by_cases hk2 : kindI x = 5
  · refine ⟨H2, ?_⟩
    simp -implicitDefEqProofs [F13, hcut, add_int, hw1, e1, ext_i, ptr_eql_nil _ ptM, neq_int, pick_bool, e2, not_bool, k1, k2, eql_int, hk1, hk2, hk]
  have hcs0 : (MV.fresh (7 + r)).begun.cs = [1, 0, 0, 0, 0, 57, 0] := rfl
  have hmx0 : (MV.fresh (7 + r)).begun.max = 7 + r := rfl
  have hrj0 : (MV.fresh (7 + r)).begun.rej = 0 := rfl
  generalize (MV.fresh (7 + r)).begun = M at m2 hcs0 hmx0 hrj0
  obtain ⟨H3, e3, m3, f3⟩ := Write_runs (G := knownG ks) m2 6 old 99998
  have hM : M.wrote 6 old = { M.acc with cs := [1, 0, 0, 0, 0, old, 0] } := by
    unfold MV.wrote; rw [if_pos (by rw [hcs0]; simp)]; simp [MV.set, MV.acc, hcs0]
  rw [hM] at m3
  generalize hM3 : ({ M.acc with cs := [1, 0, 0, 0, 0, old, 0] } : MV) = M3 at m3
  have hcs3 : M3.cs = [1, 0, 0, 0, 0, old, 0] := by rw [← hM3]
  have hmx3 : M3.max = 7 + r := by rw [← hM3]; exact hmx0
  have hrj3 : M3.rej = 0 := by rw [← hM3]; exact hrj0
  obtain ⟨s4, H4, o4, e4, c4, f4⟩ := Cells_runs (G := knownG ks) m3 (-2) 99998
  have m4 := m3.fr f4 (by simp)
  obtain ⟨H5, e5, d5, f5⟩ := DNew_runs (G := knownG ks) (H := H4) o4 3 6 old x 99999
  have m5 := m4.fr f5 (by simp)
  have c5 := c4.fr f5 (by simp)
  have hfp : H4.length ≠ H.length := by have := m4.lt; omega
  have hlen3 : (M3.cs.length : Int) = 7 := by rw [hcs3]; rfl
  obtain ⟨H6, o6, e6, d6, m6, f6⟩ := DStep_runs (G := knownG ks) d5 m5 hfp (by simp) (by omega) (by omega) 99996
  have c6 := c5.fr f6 (by simp)
  by_cases hr5 : r < 5
  · have hroom : M3.room 5 = false := by simp only [MV.room, decide_eq_false_iff_not, hlen3, hmx3]; omega
    have hd : (dstep ⟨0, 3, 6, old, x, 0, 0, 0⟩ M3).1 = ⟨6, 3, 6, old, x, 0, 0, 3⟩ := by simp [dstep, hroom]
    have hm : (dstep ⟨0, 3, 6, old, x, 0, 0, 0⟩ M3).2 = { M3 with cnt := IntKind.i64.wrap (M3.cnt + 1), rej := IntKind.i64.wrap (M3.rej + 1) } := by
      show M3.made [3, 6, old, x, 0] = _
      unfold MV.made; rw [show ([3, 6, old, x, 0] : List Int).length = 5 from rfl, hroom]; rfl
    rw [hd] at e6 d6; rw [hm] at m6
    have oo := DOutcome_runs (G := knownG ks) d6 99999
    have or := DRecord_runs (G := knownG ks) d6 99999
    obtain ⟨s7, H7, o7, e7, c7, f7⟩ := Cells_runs (G := knownG ks) m6 (-3) 99998
    have e8 := Words_runs (G := knownG ks) c7.ints.1 (c6.fr f7 (by simp)).ints.1 m6.fits 34462
    have e9 := Refused_runs (G := knownG ks) (m6.fr f7 (by simp)) 99999
    have hrj : IntKind.i64.wrap (M3.rej + 1) = 1 := by rw [hrj3]; decide
    simp only [hrj] at e9
    refine ⟨H7, ?_⟩
    simp -implicitDefEqProofs [F13, hcut, add_int, hw1, e1, ext_i, ptr_eql_nil _ ptM, neq_int, pick_bool, e2, not_bool, k1, k2, eql_int, hk1, hk2, hk, e3, e4, e5, e6, lss_int, hr5, oo, or, e7, e8, e9]
  · have hroom : M3.room 5 = true := by simp only [MV.room, decide_eq_true_eq, hlen3, hmx3]; omega
    have hd : (dstep ⟨0, 3, 6, old, x, 0, 0, 0⟩ M3).1 = ⟨1, 3, 6, old, x, 8, 0, 0⟩ := by simp [dstep, hroom, hlen3]
    have hm : (dstep ⟨0, 3, 6, old, x, 0, 0, 0⟩ M3).2 = { M3 with cnt := IntKind.i64.wrap (M3.cnt + 1), cs := M3.cs ++ [3, 6, old, x, 0] } := by
      show M3.made [3, 6, old, x, 0] = _
      unfold MV.made; rw [show ([3, 6, old, x, 0] : List Int).length = 5 from rfl, hroom]; rfl
    rw [hd] at e6 d6; rw [hm] at m6
    have or := DRecord_runs (G := knownG ks) d6 99999
    have e7 := Used_runs (G := knownG ks) m6 99999
    have e9 := Refused_runs (G := knownG ks) m6 99999
    simp only [hrj3] at e9
    have hl : ((M3.cs ++ [3, 6, old, x, 0]).length : Int) = 12 := by rw [hcs3]; rfl
    simp only [hl] at e7
    refine ⟨H6, ?_⟩
    simp -implicitDefEqProofs [F13, hcut, add_int, hw1, e1, ext_i, ptr_eql_nil _ ptM, neq_int, pick_bool, e2, not_bool, k1, k2, eql_int, hk1, hk2, hk, e3, e4, e5, e6, lss_int, hr5, or, e7, e9]
end Go.Proofs.Ytpenlcigickkbaa.Fun
namespace Go.Proofs.Ytpenlcigickkbaa.Pure
open Go.RowKit Go.Proofs.YtpenlcigickkbaaA.Am Fun
theorem DcssRoom_law : Law Try.prog 13 [3, 2, 2] := law_of fun H args hr hi => by
  obtain ⟨v0, _, rfl, h0, v1, _, rfl, h1, v2, _, rfl, h2, rfl⟩ := hi
  obtain ⟨a, rfl, ha⟩ := h0.int (show Try.prog.underlying 3 = _ from by kernel_rfl)
  obtain ⟨b, rfl, hb⟩ := h1.int (show Try.prog.underlying 2 = _ from by kernel_rfl)
  obtain ⟨c, rfl, hc⟩ := h2.int (show Try.prog.underlying 2 = _ from by kernel_rfl)
  exact DcssRoom_run a b c ha hb hc
end Go.Proofs.Ytpenlcigickkbaa.Pure
