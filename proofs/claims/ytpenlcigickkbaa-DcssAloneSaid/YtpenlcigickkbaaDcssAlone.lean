/- DcssAlone over the abstract machine. -/
import Derived.Test.YtpenlcigickkbaaFrames
import Derived.Test.YtpenlcigickkbaaKnown
import Derived.Test.YtpenlcigickkbaaFunDcssAlone
namespace Go.Proofs.Ytpenlcigickkbaa.Fun
open Go.RowKit Go.Proofs.YtpenlcigickkbaaA.Am
set_option linter.unusedVariables false
set_option linter.unusedSimpArgs false
/-- One round of the loop. -/
theorem alone_round {G : Oracle} {H : Heap} {o : Own} {f p : Nat} {d d' : DV} {M M' : MV} {v0 v1 v2 v3 v8 v10 v42 v60 v63 v83 : Value} (hd : DcssR H o f d) (hm : MemR H o p M) (hfp : f ≠ p) (hnx : 0 ≤ d.next ∧ d.next ≤ 6) (hmx : 0 ≤ M.max ∧ M.max ≤ 65536) (hle : (M.cs.length : Int) ≤ M.max)
    (hst : dstep d M = (d', M')) (j : Nat) (hj : j < 9) :
    ∃ H' o', F12_b0 (run G 100000) 100000 [v0, v1, v2, v3, v8, pv p, v10, v42, cv j, pv f, v60, v63, v83] H =
      some (if d'.next = 6 then (.exit 0, [v0, v1, v2, v3, v8, pv p, v10, v42, cv j, pv f, .bool false, v63, v83], H') else (.normal, [v0, v1, v2, v3, v8, pv p, v10, v42, cv ((j + 1 : Nat) : Int), pv f, .bool true, v63, v83], H')) ∧ DcssR H' o' f d' ∧ MemR H' o' p M' := by
  obtain ⟨H1, o1, e1, d1, m1, f1⟩ := DStep_runs (G := G) hd hm hfp hnx hmx hle 99996
  rw [hst] at e1 d1 m1
  have g : (j : Int) < 9 := by omega
  have hw : IntKind.i64.wrap ((j : Int) + 1) = ((j + 1 : Nat) : Int) := by rw [w64 (by omega)]; omega
  refine ⟨H1, o1, ?_, d1, m1⟩
  by_cases h6 : d'.next = 6
  · simp only [h6] at e1
    simp -implicitDefEqProofs [-Int.natCast_add, F12_b0_v, F12_b0v, lss_int, g, e1, not_bool, pick_bool, h6, fin]
  · simp only [h6] at e1
    simp -implicitDefEqProofs [-Int.natCast_add, F12_b0_v, F12_b0v, lss_int, g, e1, not_bool, pick_bool, h6, add_int, hw, fin]
theorem p1 {M : MV} {g th : Int} (old x : Int) (hcs : M.cs = [1, 0, g, 0, 0, th, 0]) (hmx : M.max = 40) : ∃ M', dstep ⟨0, 3, 6, old, x, 0, 0, 0⟩ M = (⟨1, 3, 6, old, x, 8, 0, 0⟩, M') ∧ M'.cs = [1, 0, g, 0, 0, th, 0, 3, 6, old, x, 0] ∧ M'.max = 40 := by
  have hroom : M.room 5 = true := by simp [MV.room, hcs, hmx]
  refine ⟨M.made [3, 6, old, x, 0], by simp [dstep, hroom, hcs], ?_, by rw [made_max]; exact hmx⟩
  unfold MV.made; rw [show ([3, 6, old, x, 0] : List Int).length = 5 from rfl, hroom]; simp [hcs]
theorem p2f {M : MV} {g th : Int} (old x : Int) (hcs : M.cs = [1, 0, g, 0, 0, th, 0, 3, 6, old, x, 0]) (hmx : M.max = 40) (hne : ¬ old = th) : ∃ M', dstep ⟨1, 3, 6, old, x, 8, 0, 0⟩ M = (⟨6, 3, 6, old, x, 8, 0, 0⟩, M') ∧ M'.cs = M.cs ∧ M'.max = 40 := by
  have hfit : M.fit 6 old = false := by simp only [MV.fit, MV.at, hcs]; simp; exact fun e => hne e.symm
  refine ⟨M.cas 6 old (ofI 5 8), by simp [dstep, hfit], ?_⟩
  unfold MV.cas; rw [hfit]; simp only [Bool.false_eq_true, if_false]
  unfold MV.seen; split <;> exact ⟨rfl, hmx⟩
theorem p2t {M : MV} {g : Int} (old x : Int) (hcs : M.cs = [1, 0, g, 0, 0, old, 0, 3, 6, old, x, 0]) (hmx : M.max = 40) : ∃ M', dstep ⟨1, 3, 6, old, x, 8, 0, 0⟩ M = (⟨2, 3, 6, old, x, 8, 0, 0⟩, M') ∧ M'.cs = [1, 0, g, 0, 0, 69, 0, 3, 6, old, x, 0] ∧ M'.max = 40 := by
  have hfit : M.fit 6 old = true := by simp only [MV.fit, MV.at, hcs]; simp
  have h69 : ofI 5 8 = 69 := by decide
  refine ⟨M.cas 6 old (ofI 5 8), by simp [dstep, hfit], ?_⟩
  unfold MV.cas; rw [hfit, h69]; simp [MV.set, MV.acc, hcs, hmx]
theorem p3 {M : MV} {g : Int} (old x : Int) (hcs : M.cs = [1, 0, g, 0, 0, 69, 0, 3, 6, old, x, 0]) (hmx : M.max = 40) : ∃ M', dstep ⟨2, 3, 6, old, x, 8, 0, 0⟩ M = (⟨3, 3, 6, old, x, 8, if g = 0 then 1 else 2, 0⟩, M') ∧ M'.cs = M.cs ∧ M'.max = 40 := by
  have ha : M.at 3 = g := by simp [MV.at, hcs]
  refine ⟨M.seen 3, by simp [dstep, ha], ?_⟩
  unfold MV.seen; split <;> exact ⟨rfl, hmx⟩
theorem p4 {M : MV} {g s : Int} (old x : Int) (hcs : M.cs = [1, 0, g, 0, 0, 69, 0, 3, 6, old, x, 0]) (hmx : M.max = 40) : ∃ M', dstep ⟨3, 3, 6, old, x, 8, s, 0⟩ M = (⟨4, 3, 6, old, x, 8, s, 0⟩, M') ∧ M'.cs = [1, 0, g, 0, 0, 69, 0, 3, 6, old, x, s] ∧ M'.max = 40 := by
  have hw : wr (8 + 4) = 12 := by decide
  have hfit : M.fit 12 0 = true := by simp only [MV.fit, MV.at, hcs]; simp
  refine ⟨M.cas 12 0 s, by simp only [dstep]; rw [hw]; rfl, ?_⟩
  unfold MV.cas; rw [hfit]; simp [MV.set, MV.acc, hcs, hmx]
theorem p5 {M : MV} {g s : Int} (old x : Int) (hcs : M.cs = [1, 0, g, 0, 0, 69, 0, 3, 6, old, x, s]) (hmx : M.max = 40) : ∃ M', dstep ⟨4, 3, 6, old, x, 8, s, 0⟩ M = (⟨5, 3, 6, old, x, 8, s, 0⟩, M') ∧ M'.cs = M.cs ∧ M'.max = 40 := by
  have hw : wr (8 + 4) = 12 := by decide
  have ha : M.at 12 = s := by simp [MV.at, hcs]
  refine ⟨M.seen 12, by simp only [dstep]; rw [hw, ha]; rfl, ?_⟩
  unfold MV.seen; split <;> exact ⟨rfl, hmx⟩
theorem p6 {M : MV} {g s : Int} (old x : Int) (hcs : M.cs = [1, 0, g, 0, 0, 69, 0, 3, 6, old, x, s]) (hmx : M.max = 40) : ∃ M', dstep ⟨5, 3, 6, old, x, 8, s, 0⟩ M = (⟨6, 3, 6, old, x, 8, s, if s = 1 then 1 else 2⟩, M') ∧ M'.cs = [1, 0, g, 0, 0, if s = 1 then x else old, 0, 3, 6, old, x, s] ∧ M'.max = 40 := by
  have h69 : ofI 5 8 = 69 := by decide
  have hfit : M.fit 6 69 = true := by simp only [MV.fit, MV.at, hcs]; simp
  by_cases hs : s = 1
  · refine ⟨M.cas 6 69 x, by simp [dstep, hs, h69], ?_⟩
    unfold MV.cas; rw [hfit]; simp [MV.set, MV.acc, hcs, hmx, hs]
  · refine ⟨M.cas 6 69 old, by simp [dstep, hs, h69], ?_⟩
    unfold MV.cas; rw [hfit]; simp [MV.set, MV.acc, hcs, hmx, hs]
theorem DcssAlone_run {H : Heap} (old x th g : Int) (ho : W64 old) (hx : W64 x) (ht : W64 th) : ∃ n H', run (knownG ks) n 12 [cv old, cv x, cv th, cv g] H = some (.bool true, H') := by
  refine ⟨100001, ?_⟩
  rw [F12_eq]
  have hk := fun H => known_runs 58 (by decide) 99999 H
  obtain ⟨H1, e1, m1, f1⟩ := New_runs (G := knownG ks) (H := H) o0 40 (by omega) 99999
  obtain ⟨H2, o2, e2, m2, f2⟩ := Begin_runs (G := knownG ks) m1 rfl (by simp [MV.fresh]) 99987
  have k1 := fun H => Kind_runs (G := knownG ks) 99997 old ho.2 H
  have k2 := fun H => Kind_runs (G := knownG ks) 99997 x hx.2 H
  have k3 := fun H => Kind_runs (G := knownG ks) 99997 th ht.2 H
  by_cases hk1 : kindI old = 5
  · refine ⟨H2, ?_⟩
    simp -implicitDefEqProofs [F12, e1, ext_i, ptr_eql_nil _ ptM, neq_int, pick_bool, e2, not_bool, k1, eql_int, hk1, hk]
  by_cases hk3 : kindI th = 5
  · refine ⟨H2, ?_⟩
    simp -implicitDefEqProofs [F12, e1, ext_i, ptr_eql_nil _ ptM, neq_int, pick_bool, e2, not_bool, k1, k3, eql_int, hk1, hk3, hk]
  by_cases hk2 : kindI x = 5
  · refine ⟨H2, ?_⟩
    simp -implicitDefEqProofs [F12, e1, ext_i, ptr_eql_nil _ ptM, neq_int, pick_bool, e2, not_bool, k1, k2, k3, eql_int, hk1, hk2, hk3, hk]
  have hcs0 : (MV.fresh 40).begun.cs = [1, 0, 0, 0, 0, 57, 0] := rfl
  have hmx0 : (MV.fresh 40).begun.max = 40 := rfl
  generalize (MV.fresh 40).begun = M at m2 hcs0 hmx0
  obtain ⟨H3, e3, m3, f3⟩ := Write_runs (G := knownG ks) m2 6 th 99998
  have hM : M.wrote 6 th = { M.acc with cs := [1, 0, 0, 0, 0, th, 0] } := by
    unfold MV.wrote; rw [if_pos (by rw [hcs0]; simp)]; simp [MV.set, MV.acc, hcs0]
  rw [hM] at m3
  obtain ⟨H4, e4, m4, f4⟩ := Write_runs (G := knownG ks) m3 3 g 99998
  have hM4 : ({ M.acc with cs := [1, 0, 0, 0, 0, th, 0] } : MV).wrote 3 g = { M.acc.acc with cs := [1, 0, g, 0, 0, th, 0] } := by
    unfold MV.wrote; rw [if_pos (by simp)]; simp [MV.set, MV.acc]
  rw [hM4] at m4
  generalize hMd : ({ M.acc.acc with cs := [1, 0, g, 0, 0, th, 0] } : MV) = M4 at m4
  have hcs4 : M4.cs = [1, 0, g, 0, 0, th, 0] := by rw [← hMd]
  have hmx4 : M4.max = 40 := by rw [← hMd]; exact hmx0
  obtain ⟨H5, e5, d5, f5⟩ := DNew_runs (G := knownG ks) (H := H4) o2 3 6 old x 99999
  have m5 := m4.fr f5 (by simp)
  have hfp : H4.length ≠ H.length := by have := m4.lt; omega
  obtain ⟨M6, s1, c1, x1⟩ := p1 old x hcs4 hmx4
  obtain ⟨H6, o6, e6, d6, m6⟩ := alone_round (G := knownG ks) (v0 := cv old) (v1 := cv x) (v2 := cv th) (v3 := cv g) (v8 := .bool false) (v10 := cv 0) (v42 := .bool false) (v60 := undef) (v63 := undef) (v83 := undef) d5 m5 hfp (by simp) (by omega) (by rw [hcs4, hmx4]; simp) s1 1 (by omega)
  have hL : ∀ {M : MV} {c0 c1 c2 c3 c4 c5 c6 c7 c8 c9 c10 c11 : Int}, M.cs = [c0, c1, c2, c3, c4, c5, c6, c7, c8, c9, c10, c11] → M.max = 40 → (M.cs.length : Int) ≤ M.max := by
    intro M c0 c1 c2 c3 c4 c5 c6 c7 c8 c9 c10 c11 h1 h2; rw [h1, h2]; simp
  by_cases hot : old = th
  · subst hot
    obtain ⟨M7, s2, c2, x2⟩ := p2t old x c1 x1
    obtain ⟨H7, o7, e7, d7, m7⟩ := alone_round (G := knownG ks) (v0 := cv old) (v1 := cv x) (v2 := cv old) (v3 := cv g) (v8 := .bool false) (v10 := cv 0) (v42 := .bool false) (v60 := .bool true) (v63 := undef) (v83 := undef) d6 m6 hfp (by simp) (by omega) (hL c1 x1) s2 2 (by omega)
    obtain ⟨M8, s3, c3, x3⟩ := p3 old x c2 x2
    obtain ⟨H8, o8, e8, d8, m8⟩ := alone_round (G := knownG ks) (v0 := cv old) (v1 := cv x) (v2 := cv old) (v3 := cv g) (v8 := .bool false) (v10 := cv 0) (v42 := .bool false) (v60 := .bool true) (v63 := undef) (v83 := undef) d7 m7 hfp (by simp) (by omega) (hL c2 x2) s3 3 (by omega)
    rw [c2] at c3
    obtain ⟨M9, s4, c4, x4⟩ := p4 (s := if g = 0 then 1 else 2) old x c3 x3
    obtain ⟨H9, o9, e9, d9, m9⟩ := alone_round (G := knownG ks) (v0 := cv old) (v1 := cv x) (v2 := cv old) (v3 := cv g) (v8 := .bool false) (v10 := cv 0) (v42 := .bool false) (v60 := .bool true) (v63 := undef) (v83 := undef) d8 m8 hfp (by simp) (by omega) (hL c3 x3) s4 4 (by omega)
    obtain ⟨M10, s5, c5, x5⟩ := p5 old x c4 x4
    obtain ⟨H10, o10, e10, d10, m10⟩ := alone_round (G := knownG ks) (v0 := cv old) (v1 := cv x) (v2 := cv old) (v3 := cv g) (v8 := .bool false) (v10 := cv 0) (v42 := .bool false) (v60 := .bool true) (v63 := undef) (v83 := undef) d9 m9 hfp (by simp) (by omega) (hL c4 x4) s5 5 (by omega)
    rw [c4] at c5
    obtain ⟨M11, s6, c6, x6⟩ := p6 old x c5 x5
    obtain ⟨H11, o11, e11, d11, m11⟩ := alone_round (G := knownG ks) (v0 := cv old) (v1 := cv x) (v2 := cv old) (v3 := cv g) (v8 := .bool false) (v10 := cv 0) (v42 := .bool false) (v60 := .bool true) (v63 := undef) (v83 := undef) d10 m10 hfp (by simp) (by omega) (hL c5 x5) s6 6 (by omega)
    simp only [show ((1 : Int) = 6) = False by simp, show ((2 : Int) = 6) = False by simp, show ((3 : Int) = 6) = False by simp, show ((4 : Int) = 6) = False by simp, show ((5 : Int) = 6) = False by simp, if_false, if_true] at e6 e7 e8 e9 e10 e11
    have hit := (iter_normal (n := 99999) e6).trans ((iter_normal (n := 99998) e7).trans ((iter_normal (n := 99997) e8).trans ((iter_normal (n := 99996) e9).trans ((iter_normal (n := 99995) e10).trans (iter_exit (n := 99994) e11)))))
    replace hit : iter 100000 (F12_b0 (run (knownG ks) 100000) 100000) [cv old, cv x, cv old, cv g, .bool false, pv H.length, cv 0, .bool false, cv 1, pv H4.length, undef, undef, undef] H5 = _ := hit
    have oo := DOutcome_runs (G := knownG ks) d11 99999
    have a6 := At_runs (G := knownG ks) m11 6 99999
    have a3 := At_runs (G := knownG ks) m11 3 99999
    have y6 : M11.at 6 = if (if g = 0 then (1 : Int) else 2) = 1 then x else old := by simp [MV.at, c6]
    have y3 : M11.at 3 = g := by simp [MV.at, c6]
    rw [y6] at a6; rw [y3] at a3
    refine ⟨H11, ?_⟩
    by_cases hg : g = 0
    · simp only [hg] at *
      simp only [if_true] at *
      simp -implicitDefEqProofs [F12, e1, ext_i, ptr_eql_nil _ ptM, neq_int, pick_bool, e2, not_bool, k1, k2, k3, eql_int, hk1, hk2, hk3, hk, e3, e4, e5, hit, F12_j1_v, F12_j1v, oo, a6, a3]
    · simp only [hg, if_false, show ((2 : Int) = 1) = False by simp] at oo a6
      simp -implicitDefEqProofs [F12, e1, ext_i, ptr_eql_nil _ ptM, neq_int, pick_bool, e2, not_bool, k1, k2, k3, eql_int, hk1, hk2, hk3, hk, e3, e4, e5, hit, F12_j1_v, F12_j1v, oo, a6, a3, hg]
  · obtain ⟨M7, s2, c2, x2⟩ := p2f old x c1 x1 hot
    obtain ⟨H7, o7, e7, d7, m7⟩ := alone_round (G := knownG ks) (v0 := cv old) (v1 := cv x) (v2 := cv th) (v3 := cv g) (v8 := .bool false) (v10 := cv 0) (v42 := .bool false) (v60 := .bool true) (v63 := undef) (v83 := undef) d6 m6 hfp (by simp) (by omega) (hL c1 x1) s2 2 (by omega)
    simp only [show ((1 : Int) = 6) = False by simp, if_false, if_true] at e6 e7
    have hit := (iter_normal (n := 99999) e6).trans (iter_exit (n := 99998) e7)
    replace hit : iter 100000 (F12_b0 (run (knownG ks) 100000) 100000) [cv old, cv x, cv th, cv g, .bool false, pv H.length, cv 0, .bool false, cv 1, pv H4.length, undef, undef, undef] H5 = _ := hit
    have oo := DOutcome_runs (G := knownG ks) d7 99999
    have a6 := At_runs (G := knownG ks) m7 6 99999
    have y6 : M7.at 6 = th := by simp [MV.at, c2, c1]
    rw [y6] at a6
    refine ⟨H7, ?_⟩
    simp -implicitDefEqProofs [F12, e1, ext_i, ptr_eql_nil _ ptM, neq_int, pick_bool, e2, not_bool, k1, k2, k3, eql_int, hk1, hk2, hk3, hk, e3, e4, e5, hit, F12_j1_v, F12_j1v, oo, a6, hot]
end Go.Proofs.Ytpenlcigickkbaa.Fun
namespace Go.Proofs.Ytpenlcigickkbaa.Pure
open Go.RowKit Go.Proofs.YtpenlcigickkbaaA.Am Fun
theorem DcssAlone_law : Law Try.prog 12 [2, 2, 2, 2] := law_of fun H args hr hi => by
  obtain ⟨v0, _, rfl, h0, v1, _, rfl, h1, v2, _, rfl, h2, v3, _, rfl, h3, rfl⟩ := hi
  obtain ⟨a, rfl, ha⟩ := h0.int (show Try.prog.underlying 2 = _ from by kernel_rfl)
  obtain ⟨b, rfl, hb⟩ := h1.int (show Try.prog.underlying 2 = _ from by kernel_rfl)
  obtain ⟨c, rfl, hc⟩ := h2.int (show Try.prog.underlying 2 = _ from by kernel_rfl)
  obtain ⟨d, rfl, hd⟩ := h3.int (show Try.prog.underlying 2 = _ from by kernel_rfl)
  exact DcssAlone_run a b c d ha hb hc
end Go.Proofs.Ytpenlcigickkbaa.Pure
