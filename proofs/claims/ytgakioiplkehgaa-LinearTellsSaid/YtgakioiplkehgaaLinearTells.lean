
/- LinearTells over the abstract machine. -/
import Derived.Test.YtgakioiplkehgaaFunLinearTells
import Derived.Test.YtgakioiplkehgaaLinIn
import Derived.Test.YtgakioiplkehgaaFunLinearTells
namespace Go.Proofs.Ytgakioiplkehgaa.Fun
open Go Go.RowKit Go.Proofs.YtgakioiplkehgaaA.Am
set_option linter.unusedVariables false
set_option linter.unusedSimpArgs false
set_option linter.unnecessarySimpa false
set_option maxRecDepth 10000
theorem known_bad : (ks ++ badOf Try.prog).contains 8 = true := by rw [badIs]; rfl
theorem known_run (n : Nat) (H : Heap) : run KG (n + 1) 8 [] H = some (.bool true, H) := by
  unfold run
  simp only [acall, known_bad, if_true]
  simp [kinG]
theorem tells_j1 {H : Heap} {o : Owner} {q : Int} {y : Value} {m : PL} {b : Nat} {op : OpV} {v0 v1 v2 v3 v4 v10 v15 v20 v24 v12 : Value} (hy : SlR H o q y m) (hm : m.length ≤ 200) (hw : W64s m) (ho : OpOk op) (gb : H.get b = some ⟨[cv op.kind, cv op.key, cv op.value], 23, 1, false⟩) :
    ∃ H', F5_j1v (run KG 16777216) 16777216 v0 v1 v2 v3 v4 v10 v15 y v20 v24 (pv b) v12 H = some (.bool true, H') := by
  have kn : ∀ H, run KG 16777216 8 [] H = some (.bool true, H) := fun H => known_run 16777215 H
  have b0 := bsP0 H
  obtain ⟨inx, H1, r1, s1, x1⟩ := copy_runs hy (by omega)
  obtain ⟨y1, H2, r2, R2, x2⟩ := lAnswer_runs (n := 16777207) s1.r (by omega) op (by omega)
  have y2 := (hy.ext x1).ext x2
  obtain ⟨y3, H3, r3, R3, x3⟩ := rAnswer_runs (G := KG) (n := 16777212) y2 (by omega) op (by omega)
  have hll : ∀ l : PL, l.length ≤ 200 → (ansL l op).list.length ≤ 200 := fun l h => by
    unfold ansL ans
    have := rng_len op.key op.value l
    split
    · repeat' split
      all_goals first | (rw [resF_list]; simp; done) | (simp only [resW, List.length_nil]; omega) | omega
    · simp [res0]
  obtain ⟨H4, r4, x4⟩ := Results_runs (G := KG) (n := 16777214) (R2.ext x3) R3 (by have := hll m hm; omega) (by have := hll m hm; omega)
  rw [resEq_self] at r4
  have s4 := ((s1.r.ext x2).ext x3).ext x4
  obtain ⟨y5, H5, r5, s5, x5⟩ := lAfter_runs (n := 16777207) s4 (by omega) op (by omega)
  have y5' := (((y2.ext x3).ext x4).ext x5)
  obtain ⟨y6, H6, r6, s6, x6⟩ := rAfter_runs (G := KG) (n := 16777213) y5' (by omega) op (by omega)
  have e5 : rng (-9223372036854775808) 9223372036854775807 (aftL m op) = aftL m op := by
    unfold aftL
    split
    · exact rng_all (hw.aft ho)
    · rfl
  rw [e5] at s5
  have la : (aftL m op).length ≤ 201 := by
    unfold aftL aft
    have h1 := len_mput m op.key op.value
    have h2 := len_mdel m op.key
    repeat' split
    all_goals first | (simp; done) | (split at h1 <;> omega) | omega
  have r7 := Pairs_runs (G := KG) (n := 16777215) (s5.ext x6) s6 (by omega) (by omega)
  have r8 := Pairs_runs (G := KG) (n := 16777215) ((s4.ext x5).ext x6) (y5'.ext x6) (by omega) (by omega)
  simp only [decide_true] at r7 r8
  have L1 := ldO (x1.get gb)
  have L2 := ldO (x2.get (x1.get gb))
  have L3 := ldO (x3.get (x2.get (x1.get gb)))
  have L4 := ldO (x4.get (x3.get (x2.get (x1.get gb))))
  have L5 := ldO (x5.get (x4.get (x3.get (x2.get (x1.get gb)))))
  have L6 := ldO (x6.get (x5.get (x4.get (x3.get (x2.get (x1.get gb))))))
  have ev : eqV (opA op) (opA op) = true := by simp [eqV, eqV1, eqList]
  refine ⟨H6, ?_⟩
  simp -implicitDefEqProofs [F5_j1v, b0, r1, kn, L1, L2, L3, L4, L5, L6, r2, r3, r4, r5, r6, r7, r8, pick_bool, ev]
theorem LinearTells_run {H : Heap} {v0 v1 : Value} {raw : PL} {zs : List Int} (h0 : SlR H o0 (-1) v0 raw) (hw0 : W64s raw) (h1 : IntsR H o0 (-1) v1 zs) (hz : ∀ x ∈ zs, W64 x) (asis : Bool) {op : OpV} (ho : OpOk op) (nn : Int) (hnn : W64 nn) :
    ∃ n H', run KG n 5 [v0, v1, .bool asis, opA op, cv nn] H = some (.bool true, H') := by
  refine ⟨16777217, ?_⟩
  rw [F5_eq]
  have kn : ∀ H, run KG 16777216 8 [] H = some (.bool true, H) := fun H => known_run 16777215 H
  have b1 := boxO op H
  obtain ⟨H1, e1⟩ : ∃ z, z = H.new ⟨[cv op.kind, cv op.key, cv op.value], 23, 1, false⟩ := ⟨_, rfl⟩
  rw [← e1] at b1
  have x1 : Ext H H1 := by rw [e1]; exact (Ext.refl H).new _
  have g1 : H1.get H.length = some ⟨[cv op.kind, cv op.key, cv op.value], 23, 1, false⟩ := by rw [e1]; exact get_new
  -- behind the choice of the list
  have rest : ∀ (H2 : Heap) (o : Owner) (q : Int) (y : Value) (m : PL) (d15 : Value), SlR H2 o q y m → W64s m → H2.get H.length = some ⟨[cv op.kind, cv op.key, cv op.value], 23, 1, false⟩ →
      ∃ H', F5_j0 (run KG 16777216) 16777216 [v0, v1, .bool asis, opA op, cv nn, .bool false, d15, y, undef, undef, pv H.length, undef] H2 = some (.bool true, H') := by
    intro H2 o q y m d15 hy hw g2
    rw [F5_j0_v]
    have hyl := hy.len
    by_cases hm : m.length ≤ 200
    · have hm' : ¬ (m.length : Int) > 200 := by omega
      by_cases hr : nn.tmod 3 = 0
      · obtain ⟨H', hj⟩ := tells_j1 (v0 := v0) (v1 := v1) (v2 := .bool asis) (v3 := opA op) (v4 := cv nn) (v10 := .bool false) (v15 := d15) (v20 := .bool false) (v24 := .bool false) (v12 := undef) hy hm hw ho g2
        refine ⟨H', ?_⟩
        simp -implicitDefEqProofs [-gt_iff_lt, F5_j0v, hyl, gtr_int, hm', rem_int, hr, neq_int, F5_j1_v, hj]
      · have w3 : IntKind.i64.wrap (nn.tdiv 3) = nn.tdiv 3 := w64 (tdiv_w hnn (by omega))
        have w30 : IntKind.i64.wrap (nn.tdiv 30) = nn.tdiv 30 := w64 (tdiv_w hnn (by omega))
        have w27 : IntKind.i64.wrap (nn.tdiv 2700) = nn.tdiv 2700 := w64 (tdiv_w hnn (by omega))
        have u3 := Cut_runs (G := KG) 16777215 (nn.tdiv 3) 10 (tdiv_w hnn (by omega)) (by omega) H2
        have u30 := Cut_runs (G := KG) 16777215 (nn.tdiv 30) 90 (tdiv_w hnn (by omega)) (by omega) H2
        have u27 := Cut_runs (G := KG) 16777215 (nn.tdiv 2700) 90 (tdiv_w hnn (by omega)) (by omega) H2
        have a1 := Int.emod_nonneg (nn.tdiv 3) (show (10 : Int) ≠ 0 by omega)
        have a2 := Int.emod_lt_of_pos (nn.tdiv 3) (show (0 : Int) < 10 by omega)
        have a3 := Int.emod_nonneg (nn.tdiv 30) (show (90 : Int) ≠ 0 by omega)
        have a4 := Int.emod_lt_of_pos (nn.tdiv 30) (show (0 : Int) < 90 by omega)
        have a5 := Int.emod_nonneg (nn.tdiv 2700) (show (90 : Int) ≠ 0 by omega)
        have a6 := Int.emod_lt_of_pos (nn.tdiv 2700) (show (0 : Int) < 90 by omega)
        generalize nn.tdiv 3 % 10 = c1 at *
        generalize nn.tdiv 30 % 90 = c2 at *
        generalize nn.tdiv 2700 % 90 = c3 at *
        have k1 : IntKind.i64.wrap (1 + c1) = 1 + c1 := w64 (by omega)
        have k2 : IntKind.i64.wrap (c2 - 40) = c2 - 40 := w64 (by omega)
        have k3 : IntKind.i64.wrap (c3 - 40) = c3 - 40 := w64 (by omega)
        obtain ⟨op', eop⟩ : ∃ p : OpV, p = ⟨1 + c1, c2 - 40, c3 - 40⟩ := ⟨_, rfl⟩
        have ho' : OpOk op' := by rw [eop]; exact ⟨⟨by simp only; omega, by simp only; omega⟩, ⟨by simp only; omega, by simp only; omega⟩, by simp only; omega, by simp only; omega⟩
        have ab : abuild Try.prog 23 [(0, cv (1 + c1)), (1, cv (c2 - 40)), (2, cv (c3 - 40))] = some (opA op') := by rw [eop]; kernel_rfl
        obtain ⟨H3, e3⟩ : ∃ z, z = H2.put H.length ⟨[cv op'.kind, cv op'.key, cv op'.value], 23, 1, false⟩ := ⟨_, rfl⟩
        have st : stS 3 (pv H.length) (opA op') H2 = some (undef, H3) := by rw [e3]; simp [stS, stCells, g2, Value.cells, known, oneCell, splice]
        have g3 : H3.get H.length = some ⟨[cv op'.kind, cv op'.key, cv op'.value], 23, 1, false⟩ := by rw [e3]; exact get_put g2
        have hy3 : ∃ o3 : Owner, SlR H3 o3 q y m := by
          rcases hy with h | h | ⟨i, off, c, bb, h1, h2, h3, h4, h5⟩
          · exact ⟨o, .inl h⟩
          · exact ⟨o, .inr (.inl h)⟩
          · refine ⟨o, .inr (.inr ⟨i, off, c, bb, h1, ?_, h3, h4, h5⟩)⟩
            have : i ≠ H.length := by
              rintro rfl
              rw [g2] at h2; cases h2; simp at h3
            rw [e3, get_put_ne this]; exact h2
        obtain ⟨o3, hy3⟩ := hy3
        obtain ⟨H', hj⟩ := tells_j1 (v0 := v0) (v1 := v1) (v2 := .bool asis) (v3 := opA op) (v4 := cv nn) (v10 := .bool false) (v15 := d15) (v20 := .bool false) (v24 := .bool true) (v12 := undef) hy3 hm hw ho' g3
        refine ⟨H', ?_⟩
        simp -implicitDefEqProofs [-gt_iff_lt, F5_j0v, hyl, gtr_int, hm', rem_int, hr, neq_int, quo_int, w3, w30, w27, u3, u30, u27, add_int, sub_int, k1, k2, k3, ab, st, F5_j1_v, hj]
    · have hm' : (m.length : Int) > 200 := by omega
      exact ⟨H2, by simp -implicitDefEqProofs [-gt_iff_lt, F5_j0v, hyl, gtr_int, hm', kn]⟩
  cases asis with
  | true =>
    obtain ⟨H', hj⟩ := rest H1 _ _ v0 raw (.bool false) (h0.ext x1) hw0 g1
    exact ⟨H', by simp -implicitDefEqProofs [F5, b1, not_bool, hj]⟩
  | false =>
    obtain ⟨y, H2, m, r2, s2, _, hw2, x2⟩ := HPairs_runs (G := KG) (n := 16777213) (h1.fr (x1.fr o0 0) (by simp)) hz (by omega)
    obtain ⟨H', hj⟩ := rest H2 _ _ y m (.bool true) s2 hw2 (x2.get g1)
    exact ⟨H', by simp -implicitDefEqProofs [F5, b1, not_bool, r2, hj]⟩
end Go.Proofs.Ytgakioiplkehgaa.Fun
namespace Go.Proofs.Ytgakioiplkehgaa.Pure
open Go.RowKit Go.Proofs.YtgakioiplkehgaaA.Am Fun
set_option maxRecDepth 10000
theorem LinearTells_law : Law Try.prog 5 [27, 37, 4, 23, 3] := law_of fun H args hr hi => by
  obtain ⟨v0, _, rfl, h0, v1, _, rfl, h1, v2, _, rfl, h2, v3, _, rfl, h3, v4, _, rfl, h4, rfl⟩ := hi
  obtain ⟨raw, hv, hw⟩ := InArg.pairs h0
  obtain ⟨zs, hz, hzw, _⟩ := h1.ints (show Try.prog.underlying 37 = some (.slice 3) from by kernel_rfl) uI (by kernel_rfl)
  obtain ⟨b, rfl⟩ := h2.bool (show Try.prog.underlying 4 = _ from by kernel_rfl)
  obtain ⟨op, rfl, ho⟩ := InArg.op h3
  obtain ⟨c, rfl, hc⟩ := h4.int uI
  exact LinearTells_run hv hw hz hzw b ho c hc
end Go.Proofs.Ytgakioiplkehgaa.Pure
