/- DcssMany: a round. -/
import Derived.Test.YtpenlcigickkbaaMany2
import Derived.Test.YtpenlcigickkbaaFun3
import Derived.Test.YtpenlcigickkbaaFunDcssMany
namespace Go.Proofs.Ytpenlcigickkbaa.Fun
open Go.RowKit Go.Proofs.YtpenlcigickkbaaA.Am
set_option linter.unusedVariables false
set_option linter.unusedSimpArgs false
section
variable {H H' : Heap} {o o' : Own} {p aO aN aF aH : Nat} {fs : Nat → Nat} {hs : Nat → Option Nat} {D : Nat → DV} {h : Nat → Option HV} {G : Oracle} {M : MV} {K : Nat → Nat} {out : Nat → Int} {w : Int}
theorem many_search (m : MAll H o p aO aN aF aH fs hs D h) (L A : Int) (vS v1 v4 v6 v36 v10 v40 v14 v60 v67 v75 v15 v16 v112 v116 v138 v140 v166 v13 v21 v171 v178 v183 v20 : Value) {j : Nat} (hj : j < 5) (hit : hitM D L A j = true) :
    iter 100000 (F14_b12 (run G 100000) 100000) [vS, v1, v4, pv p, v6, v36, v10, v40, pv aO, pv aN, pv aF, v14, v60, v67, v75, v15, v16, pv aH, v112, v116, cv A, cv L, v138, cv 0, v140, .bool false, v166, v13, v21, v171, v178, v183, v20] H =
      some (.exit 4, [vS, v1, v4, pv p, v6, v36, v10, v40, pv aO, pv aN, pv aF, v14, v60, v67, v75, v15, v16, pv aH, v112, v116, cv A, cv L, v138, cv 5, .bool false, .bool true, v166, v13, v21, v171, v178, v183, v20], H) := by
  have s := fun k hk b v140 => many_look (G := G) m 99999 L A (k := k) hk b vS v1 v4 v6 v36 v10 v40 v14 v60 v67 v75 v15 v16 v112 v116 v138 v140 v166 v13 v21 v171 v178 v183 v20
  have e := fun b v140 => many_lookEnd (G := G) (H := H) 100000 b vS v1 v4 (pv p) v6 v36 v10 v40 (pv aO) (pv aN) (pv aF) v14 v60 v67 v75 v15 v16 (pv aH) v112 v116 (cv A) (cv L) v138 v140 v166 v13 v21 v171 v178 v183 v20
  have r := (iter_normal (n := 99999) (s 0 (by omega) false v140)).trans ((iter_normal (n := 99998) (s 1 (by omega) _ _)).trans ((iter_normal (n := 99997) (s 2 (by omega) _ _)).trans ((iter_normal (n := 99996) (s 3 (by omega) _ _)).trans ((iter_normal (n := 99995) (s 4 (by omega) _ _)).trans (iter_exit (n := 99994) (e _ _))))))
  have hall : (((((false || hitM D L A 0) || hitM D L A 1) || hitM D L A 2) || hitM D L A 3) || hitM D L A 4) = true := by
    rcases (show j = 0 ∨ j = 1 ∨ j = 2 ∨ j = 3 ∨ j = 4 by omega) with rfl | rfl | rfl | rfl | rfl <;> simp [hit]
  rw [hall] at r
  exact r
theorem many_j9 (m : MAll H o p aO aN aF aH fs hs D h) (hm : MemR H o p M) (hw : M.at 6 ≤ 9223372036854775807) (L t : Int) (i : Nat) (hi : i < 4000) (ht : 0 ≤ t ∧ t < 100) {j : Nat} (hj : j < 5)
    (hA : logicI M 6 = L ∨ (hitM D L (logicI M 6) j = true ∧ logicI M 6 ≠ L)) (vS v1 v4 v6 v36 v10 v40 v60 v67 v75 v15 v16 v112 v116 v17 v138 v19 v140 v18 v166 v21 v171 v178 v183 v20 : Value) :
    ∃ e17 e138 e19 e140 e18 e166, F14_j9 (run G 100000) 100000 [vS, v1, v4, pv p, v6, v36, v10, v40, pv aO, pv aN, pv aF, cv i, v60, v67, v75, v15, v16, pv aH, v112, v116, v17, cv L, v138, v19, v140, v18, v166, cv t, v21, v171, v178, v183, v20] H =
      some (.normal, [vS, v1, v4, pv p, v6, v36, v10, v40, pv aO, pv aN, pv aF, cv ((i + 1 : Nat) : Int), v60, v67, v75, v15, v16, pv aH, v112, v116, e17, cv (logicI M 6), e138, e19, e140, e18, e166, cv (if logicI M 6 = L then t else t + 1), v21, v171, v178, v183, v20], H) := by
  have lg := Logic_runs (G := G) hm 6 hw 99995
  have hwi : IntKind.i64.wrap ((i : Int) + 1) = ((i + 1 : Nat) : Int) := by rw [w64 (by omega)]; omega
  have hwt : IntKind.i64.wrap (t + 1) = t + 1 := w64 (by omega)
  generalize logicI M 6 = A at lg hA
  by_cases h0 : A = L
  · exact ⟨cv A, .bool false, v19, v140, v18, v166, by
      simp -implicitDefEqProofs [-Int.natCast_add, F14_j9_v, F14_j9v, F14_j10_v, F14_j10v, F14_j6_v, F14_j6v, lg, neq_int, eq_true h0, add_int, hwi, fin]⟩
  · have hit : hitM D L A j = true := by
      rcases hA with e | ⟨e, _⟩
      · exact absurd e h0
      · exact e
    have sr := fun v15 v138 v140 => many_search (G := G) m L A vS v1 v4 v6 v36 v10 v40 (cv i) v60 v67 v75 v15 v16 v112 v116 v138 v140 v166 (cv t) v21 v171 v178 v183 v20 hj hit
    exact ⟨cv A, .bool true, cv 5, .bool false, .bool true, .bool false, by
      simp -implicitDefEqProofs [-Int.natCast_add, F14_j9_v, F14_j9v, F14_j11_v, F14_j11v, F14_j10_v, F14_j10v, F14_j6_v, F14_j6v, lg, neq_int, h0, sr, not_bool, add_int, hwi, hwt, fin]⟩
theorem DI.word_le (k : DI M D h K out w) : w ≤ 9223372036854775807 := by
  have hm := made_le D
  rcases k.wv with hv | ⟨i, hi, h2, h5, e⟩
  · unfold isV at hv; omega
  · have := ((k.one i hi).rec_ (by omega)).2.1
    unfold wordM at e; omega
theorem DI.which (k : DI M D h K out w) {j : Nat} (hj : j < 5) (hr : (D j).record > 0) (h5 : kindI w = 5) (ha : atI w = (D j).record) : (D j).next ≠ 0 ∧ w = wordM (K j) := by
  have hm := made_le D
  have oj := k.one j hj
  have hn : (D j).next ≠ 0 := fun e => by have := (oj.n0 e).1; omega
  refine ⟨hn, ?_⟩
  have rj := oj.rec_ hn
  rcases k.wv with hv | ⟨i, hi, h2, h5', e⟩
  · exact absurd h5 (kind_isV hv)
  · have ri := ((k.one i hi).rec_ (by omega)).2.1
    have := (word_of (K i) (by omega)).2.2
    rw [e] at ha
    rw [e]; congr 1; omega
theorem many_j8 (m : MAll H o p aO aN aF aH fs hs D h) (hm : MemR H o p M) (di : DI M D h K out w) {l : List Int} {vS : Value} (hv : IntsR H o (-1) vS l) (s : Int) (hs64 : W64 s) {j : Nat} (hj : s % 5 = j)
    (v1 v4 v6 v36 v10 v40 v14 v60 v67 v75 v16 v112 v116 v17 v12 v138 v19 v140 v18 v166 v13 v21 v171 v178 v183 v20 : Value) :
    ∃ H' o' M' D' h' hs' K' out' w' e16 e112 e116, F14_j8 (run G 100000) 100000 [vS, v1, v4, pv p, v6, v36, v10, v40, pv aO, pv aN, pv aF, v14, v60, v67, v75, cv s, v16, pv aH, v112, v116, v17, v12, v138, v19, v140, v18, v166, v13, v21, v171, v178, v183, v20] H =
      F14_j9 (run G 100000) 100000 [vS, v1, v4, pv p, v6, v36, v10, v40, pv aO, pv aN, pv aF, v14, v60, v67, v75, cv s, e16, pv aH, e112, e116, v17, v12, v138, v19, v140, v18, v166, v13, v21, v171, v178, v183, v20] H' ∧
      MAll H' o' p aO aN aF aH fs hs' D' h' ∧ MemR H' o' p M' ∧ DI M' D' h' K' out' w' ∧ Turned D K out w D' K' out' w' j ∧ IntsR H' o' (-1) vS l ∧
      (∀ i, i ≠ j → D' i = D i) ∧ (D j).next ≤ (D' j).next ∧ (IntKind.i64.wrap (s.tdiv 5) % 3 ≠ 0 → (D j).next < (D' j).next ∨ (D' j).next = 6) := by
  have hb1 := Int.emod_nonneg s (show (5 : Int) ≠ 0 by omega)
  have hb2 := Int.emod_lt_of_pos s (show (0 : Int) < 5 by omega)
  have hj5 : j < 5 := by omega
  have c1 := Cut_runs (G := G) 99999 s 5 hs64 (by omega) H
  rw [hj] at c1
  have c2 := Cut_runs (G := G) 99999 (IntKind.i64.wrap (s.tdiv 5)) 3 (wrap_in _) (by omega) H
  have hq := quo_int (P := Try.prog) 3 s 5 (by omega)
  generalize IntKind.i64.wrap (s.tdiv 5) = q5 at c2 hq
  have i5 := fun p H => iaa5 p j hj5 H
  have rF := m.rdF hj5
  have rH := m.rdH hj5
  have rcd := DRecord_runs (G := G) (m.each j hj5) 99999
  have a6 := At_runs (G := G) hm 6 99999
  rw [di.at6] at a6
  have k6 := Kind_runs (G := G) 99997 w di.word_le H
  have t6 := RAt_runs (G := G) 99997 w di.word_le H
  have oj := di.one j hj5
  have hmd := made_le D
  have hlen := di.len
  have hmx := di.mx
  have ordj := m.ordF j hj5
  obtain ⟨or1, or2, or3⟩ := m.ord
  have pn := fun x => ptr_neq_nil (P := Try.prog) x (show Try.prog.underlying 66 = some (.pointer 93) by kernel_rfl)
  have pe := fun x => ptr_eql_nil (P := Try.prog) x (show Try.prog.underlying 66 = some (.pointer 93) by kernel_rfl)
  -- its own step
  obtain ⟨H1, o1, e1, d1, m1, f1⟩ := DStep_runs (G := G) (m.each j hj5) hm (show fs j ≠ p by omega) ⟨oj.fr.2.2.2.2.1, oj.fr.2.2.2.2.2⟩ (by omega) (by omega) 99996
  obtain ⟨K1, out1, w1, x1, x2, x3⟩ := dstep_DI di hj5
  have own : MAll H1 o1 p aO aN aF aH fs hs (upd D j (dstep (D j) M).1) h := m.dstep hj5 f1 d1
  have ownV := hv.fr f1 (by simp)
  have ownR : (∀ i, i ≠ j → upd D j (dstep (D j) M).1 i = D i) ∧ (D j).next ≤ (upd D j (dstep (D j) M).1 j).next ∧ (q5 % 3 ≠ 0 → (D j).next < (upd D j (dstep (D j) M).1 j).next ∨ (upd D j (dstep (D j) M).1 j).next = 6) := by
    rw [upd_self]
    exact ⟨fun i hi => upd_ne _ _ hi, by omega, fun _ => by omega⟩
  by_cases hc : q5 % 3 = 0
  · by_cases hr : (D j).record > 0
    · -- a helper's step
      have help : ∀ {H2 : Heap} {o2 : Own} {hs2 : Nat → Option Nat} {h2 : Nat → Option HV} {q : Nat}, MAll H2 o2 p aO aN aF aH fs hs2 D h2 → MemR H2 o2 p M → DI M D h2 K out w → IntsR H2 o2 (-1) vS l → hs2 j = some q →
          ∃ H' M' h' out' w', (∃ b, run G 100000 57 [pv q, pv p] H2 = some (.bool b, H')) ∧ MAll H' o2 p aO aN aF aH fs hs2 D h' ∧ MemR H' o2 p M' ∧ DI M' D h' K out' w' ∧ Turned D K out w D K out' w' j ∧ IntsR H' o2 (-1) vS l := by
        intro H2 o2 hs2 h2 q m2 hm2 di2 hv2 hq2
        obtain ⟨hv0, g1, g2⟩ := m2.hel j hj5 q hq2
        have oq := m2.ordH j hj5 q hq2
        obtain ⟨H3, y1, y2, y3, y4⟩ := HStep_runs (G := G) g2 hm2 (show q ≠ p by omega) (di2.hel j hj5 hv0 g1).nx 99996
        obtain ⟨out', w', z1, z2⟩ := hstep_DI di2 hj5 g1
        exact ⟨H3, _, _, out', w', ⟨_, y1⟩, m2.hstep hj5 hq2 y4 y2, y3, z1, z2, hv2.fr y4 (by simp)⟩
      cases hh : hs j with
      | some q =>
        rw [hh] at rH
        obtain ⟨H3, M3, h3, out3, w3, ⟨b, y1⟩, y2, y3, y4, y5, y6⟩ := help m hm di hv hh
        refine ⟨H3, o, M3, D, h3, hs, K, out3, w3, cv j, .bool true, .bool false, ?_, y2, y3, y4, y5, y6, fun _ _ => rfl, Int.le_refl _, fun e => absurd hc e⟩
        simp -implicitDefEqProofs [F14_j8_v, F14_j8v, F14_j13_v, F14_j13v, c1, hq, c2, eql_int, hc, i5, rF, rcd, gtr_int, hr, pick_bool, rH, hp, pn, pe, y1]
      | none =>
        rw [hh] at rH
        by_cases h5 : kindI w = 5
        · by_cases hat : atI w = (D j).record
          · obtain ⟨hn, hwk⟩ := di.which hj5 hr h5 hat
            obtain ⟨H2, e2, h2, f2⟩ := HNew_runs (G := G) (H := H) o (D j).record 99999
            obtain ⟨ty, bH⟩ := m.bH
            have b2 := bH.fr f2 (by simp)
            have st := st_p aH j (some ⟨H.length, 0, none⟩) H2 b2.1 rfl (by simpa using hj5)
            have rF2 : ld1 (.pointer (some ⟨aF, j, none⟩)) H = some (pv (fs j)) := rF
            have m2 := m.hnew hj5 hh (Nat.le_refl _) f2 h2 bH
            have f3 : Fr H o (H2.put aH ⟨[hp (hs 0), hp (hs 1), hp (hs 2), hp (hs 3), hp (hs 4)].set j (pv H.length), ty, 1, false⟩) (o.up H.length H.length) [aH] := (f2.wk (by simp)).put fun _ => by rw [bH.2]; simp
            have hm2 := hm.fr f3 (by simp; omega)
            have di2 := hnew_DI di hj5 hn hwk
            have hv2 := hv.fr f3 (by simp)
            obtain ⟨H3, M3, h3, out3, w3, ⟨b, y1⟩, y2, y3, y4, y5, y6⟩ := help m2 hm2 di2 hv2 (upd_self _ _ _)
            have rH2 := m2.rdH hj5
            rw [upd_self] at rH2
            refine ⟨H3, _, M3, D, h3, _, K, out3, w3, cv j, .bool true, .bool true, ?_, y2, y3, y4, y5, y6, fun _ _ => rfl, Int.le_refl _, fun e => absurd hc e⟩
            simp only at st
            generalize H2.put aH ⟨[hp (hs 0), hp (hs 1), hp (hs 2), hp (hs 3), hp (hs 4)].set j (pv H.length), ty, 1, false⟩ = H2' at st rH2 y1
            simp -implicitDefEqProofs [F14_j8_v, F14_j8v, F14_j13_v, F14_j13v, c1, hq, c2, eql_int, hc, i5, rF, rcd, gtr_int, hr, pick_bool, rH, rH2, hp, pn, pe, a6, k6, t6, h5, hat, e2, st, y1]
          · refine ⟨H1, o1, _, _, h, hs, K1, out1, w1, cv j, .bool false, v116, ?_, own, m1, x1, x2, ownV, ownR⟩
            simp -implicitDefEqProofs [F14_j8_v, F14_j8v, c1, hq, c2, eql_int, hc, i5, rF, rcd, gtr_int, hr, pick_bool, rH, hp, pn, pe, a6, k6, t6, h5, hat, e1]
        · refine ⟨H1, o1, _, _, h, hs, K1, out1, w1, cv j, .bool false, v116, ?_, own, m1, x1, x2, ownV, ownR⟩
          simp -implicitDefEqProofs [F14_j8_v, F14_j8v, c1, hq, c2, eql_int, hc, i5, rF, rcd, gtr_int, hr, pick_bool, rH, hp, pn, pe, a6, k6, t6, h5, e1]
    · refine ⟨H1, o1, _, _, h, hs, K1, out1, w1, cv j, .bool false, v116, ?_, own, m1, x1, x2, ownV, ownR⟩
      simp -implicitDefEqProofs [F14_j8_v, F14_j8v, c1, hq, c2, eql_int, hc, i5, rF, rcd, gtr_int, hr, pick_bool, e1]
  · refine ⟨H1, o1, _, _, h, hs, K1, out1, w1, cv j, .bool false, v116, ?_, own, m1, x1, x2, ownV, ownR⟩
    simp -implicitDefEqProofs [F14_j8_v, F14_j8v, c1, hq, c2, eql_int, hc, i5, rF, pick_bool, e1]
end
end Go.Proofs.Ytpenlcigickkbaa.Fun
