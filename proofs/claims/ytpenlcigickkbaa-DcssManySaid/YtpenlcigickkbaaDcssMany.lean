/- DcssMany: the run. -/
import Derived.Test.YtpenlcigickkbaaMany4
import Derived.Test.YtpenlcigickkbaaNode
import Derived.Test.YtpenlcigickkbaaFunDcssMany
namespace Go.Proofs.Ytpenlcigickkbaa.Fun
open Go.RowKit Go.Proofs.YtpenlcigickkbaaA.Am
set_option linter.unusedVariables false
set_option linter.unusedSimpArgs false
section
variable {H H' : Heap} {o o' : Own} {p aO aN aF aH : Nat} {fs : Nat → Nat} {hs : Nat → Option Nat} {D : Nat → DV} {h : Nat → Option HV} {G : Oracle} {M : MV} {K : Nat → Nat} {out : Nat → Int} {w : Int}
/-- A change is made. -/
theorem many_mk {k : Nat} (hk : k < 5) {tO tN tF : TypeId} {cs : List Value} (hcs : cs.length = 5)
    (bO : B1 H o aO ⟨[cv 57, cv 57, cv 90, cv 98, cv 90], tO, 1, false⟩) (bN : B1 H o aN ⟨[cv 90, cv 98, cv 106, cv 114, cv 122], tN, 1, false⟩) (bF : B1 H o aF ⟨cs, tF, 1, false⟩)
    (vS v1 v4 v5 v6 v36 v40 v14 v60 v67 v75 v15 v16 v11 v112 v116 v17 v12 v138 v19 v140 v18 v166 v13 v21 v171 v178 v183 v20 : Value) :
    ∃ H', F14_b14 (run G 100000) 100000 [vS, v1, v4, v5, v6, v36, cv k, v40, pv aO, pv aN, pv aF, v14, v60, v67, v75, v15, v16, v11, v112, v116, v17, v12, v138, v19, v140, v18, v166, v13, v21, v171, v178, v183, v20] H =
      some (.normal, [vS, v1, v4, v5, v6, v36, cv ((k + 1 : Nat) : Int), .bool true, pv aO, pv aN, pv aF, v14, v60, v67, v75, v15, v16, v11, v112, v116, v17, v12, v138, v19, v140, v18, v166, v13, v21, v171, v178, v183, v20], H') ∧
      B1 H' (o.up H.length H.length) aF ⟨cs.set k (pv H.length), tF, 1, false⟩ ∧ DcssR H' (o.up H.length H.length) H.length ⟨0, 3, 6, oldM k, newM k, 0, 0, 0⟩ ∧ Fr H o H' (o.up H.length H.length) [aF] := by
  have g1 : (k : Int) < 5 := by omega
  have hw : IntKind.i64.wrap ((k : Int) + 1) = ((k + 1 : Nat) : Int) := by rw [w64 (by omega)]; omega
  have i1 := fun p H => iaa5 p k hk H
  have r1 : ld1 (.pointer (some ⟨aO, k, none⟩)) H = some (cv (oldM k)) := by
    rw [ld1_pv _ _ _ bO.1]
    rcases (show k = 0 ∨ k = 1 ∨ k = 2 ∨ k = 3 ∨ k = 4 by omega) with rfl | rfl | rfl | rfl | rfl <;> rfl
  have r2 : ld1 (.pointer (some ⟨aN, k, none⟩)) H = some (cv (newM k)) := by
    rw [ld1_pv _ _ _ bN.1]
    rcases (show k = 0 ∨ k = 1 ∨ k = 2 ∨ k = 3 ∨ k = 4 by omega) with rfl | rfl | rfl | rfl | rfl <;> rfl
  obtain ⟨H1, e1, d1, f1⟩ := DNew_runs (G := G) (H := H) o 3 6 (oldM k) (newM k) 99999
  have b1 := bF.fr f1 (by simp)
  have hlt := bF.lt
  have st := st_p aF k (some ⟨H.length, 0, none⟩) H1 b1.1 rfl (by show k < cs.length; omega)
  simp only at st
  have f2 : Fr H1 (o.up H.length H.length) (H1.put aF ⟨cs.set k (pv H.length), tF, 1, false⟩) (o.up H.length H.length) [aF] := (Fr.refl _ _ _).put fun _ => by rw [b1.2]; simp
  refine ⟨H1.put aF ⟨cs.set k (pv H.length), tF, 1, false⟩, ?_, b1.put, d1.fr f2 (by simp; omega), (f1.wk (by simp)).tr f2⟩
  generalize H1.put aF ⟨cs.set k (pv H.length), tF, 1, false⟩ = H2 at st
  simp -implicitDefEqProofs [-Int.natCast_add, F14_b14_v, F14_b14v, lss_int, g1, i1, r1, r2, e1, st, add_int, hw, fin]
/-- The ends are counted. -/
theorem DOne.end_ {i k : Nat} {d : DV} {m : Nat} {ou : Int} (a : DOne M w m i d k ou) (h6 : d.next = 6) : d.outcome = 1 ↔ ou = 1 := by
  rcases a.n6 h6 with h | ⟨h, h2, h3⟩
  · have hnp : ¬ placed d := fun p => p.2 ⟨h6, h⟩
    have := (a.np (by omega) hnp).1
    omega
  · rw [h]
theorem many_end (m : MAll H o p aO aN aF aH fs hs D h) (di : DI M D h K out w) {k : Nat} (hk : k < 5) (h6 : (D k).next = 6) (c : Int) (hc : 0 ≤ c ∧ c < 100)
    (v0 v1 v4 v5 v6 v36 v10 v40 v7 v8 v14 v60 v67 v75 v15 v16 v11 v112 v116 v17 v12 v138 v19 v140 v18 v166 v13 v171 v178 v183 : Value) :
    ∃ e171 e178 e183, F14_b3 (run G 100000) 100000 [v0, v1, v4, v5, v6, v36, v10, v40, v7, v8, pv aF, v14, v60, v67, v75, v15, v16, v11, v112, v116, v17, v12, v138, v19, v140, v18, v166, v13, cv k, v171, v178, v183, cv c] H =
      some (.normal, [v0, v1, v4, v5, v6, v36, v10, v40, v7, v8, pv aF, v14, v60, v67, v75, v15, v16, v11, v112, v116, v17, v12, v138, v19, v140, v18, v166, v13, cv ((k + 1 : Nat) : Int), e171, e178, e183, cv (c + ((if out k = 1 then 1 else 0 : Nat) : Int))], H) := by
  have g1 : (k : Int) < 5 := by omega
  have hw : IntKind.i64.wrap ((k : Int) + 1) = ((k + 1 : Nat) : Int) := by rw [w64 (by omega)]; omega
  have hwc : IntKind.i64.wrap (c + 1) = c + 1 := w64 (by omega)
  have i1 := fun p => iaa5 p k hk H
  have r1 := m.rdF hk
  have dn := DDone_runs (G := G) (m.each k hk) 99999
  rw [decide_eq_true h6] at dn
  have oc := DOutcome_runs (G := G) (m.each k hk) 99999
  have iff := (di.one k hk).end_ h6
  by_cases ho : out k = 1
  · have h1 := iff.2 ho
    refine ⟨.bool true, .bool false, .bool true, ?_⟩
    simp -implicitDefEqProofs [-Int.natCast_add, F14_b3_v, F14_b3v, F14_j4_v, F14_j4v, lss_int, g1, i1, r1, dn, not_bool, oc, eql_int, h1, ho, add_int, hw, hwc, fin]
  · have h1 : ¬ (D k).outcome = 1 := fun e => ho (iff.1 e)
    refine ⟨.bool true, .bool false, .bool false, ?_⟩
    simp -implicitDefEqProofs [-Int.natCast_add, F14_b3_v, F14_b3v, F14_j4_v, F14_j4v, lss_int, g1, i1, r1, dn, not_bool, oc, eql_int, h1, ho, add_int, hw, fin]
theorem many_endEnd (v0 v1 v4 v5 v6 v36 v10 v40 v7 v8 v9 v14 v60 v67 v75 v15 v16 v11 v112 v116 v17 v12 v138 v19 v140 v18 v166 v13 v171 v178 v183 v20 : Value) :
    F14_b3 (run G 100000) 100000 [v0, v1, v4, v5, v6, v36, v10, v40, v7, v8, v9, v14, v60, v67, v75, v15, v16, v11, v112, v116, v17, v12, v138, v19, v140, v18, v166, v13, cv 5, v171, v178, v183, v20] H =
      some (.exit 6, [v0, v1, v4, v5, v6, v36, v10, v40, v7, v8, v9, v14, v60, v67, v75, v15, v16, v11, v112, v116, v17, v12, v138, v19, v140, v18, v166, v13, cv 5, .bool false, v178, v183, v20], H) := by
  simp -implicitDefEqProofs [F14_b3_v, F14_b3v, lss_int, fin]
theorem many_done (m : MAll H o p aO aN aF aH fs hs D h) (hm : MemR H o p M) (di : DI M D h K out w) (h6 : ∀ j, j < 5 → (D j).next = 6) (t : Int) (ht : t = (cntM out : Int))
    (v0 v1 v4 v6 v36 v10 v40 v7 v8 v14 v60 v67 v75 v15 v16 v11 v112 v116 v17 v12 v138 v19 v140 v18 v166 v21 v171 v178 v183 v20 : Value) :
    F14_j1 (run (knownG ks) 100000) 100000 [v0, v1, v4, pv p, v6, v36, v10, v40, v7, v8, pv aF, v14, v60, v67, v75, v15, v16, v11, v112, v116, v17, v12, v138, v19, v140, v18, v166, cv t, v21, v171, v178, v183, v20] H = some (.bool true, H) := by
  have hk := fun H => known_runs 58 (by decide) 99999 H
  have s := fun k hk c hc v171 v178 v183 => many_end (G := knownG ks) m di (k := k) hk (h6 k hk) c hc v0 v1 v4 (pv p) v6 v36 v10 v40 v7 v8 v14 v60 v67 v75 v15 v16 v11 v112 v116 v17 v12 v138 v19 v140 v18 v166 (cv t) v171 v178 v183
  have e := fun v171 v178 v183 v20 => many_endEnd (G := knownG ks) (H := H) v0 v1 v4 (pv p) v6 v36 v10 v40 v7 v8 (pv aF) v14 v60 v67 v75 v15 v16 v11 v112 v116 v17 v12 v138 v19 v140 v18 v166 (cv t) v171 v178 v183 v20
  have le : ∀ k, ((if out k = 1 then 1 else 0 : Nat) : Int) ≤ 1 ∧ 0 ≤ ((if out k = 1 then 1 else 0 : Nat) : Int) := fun k => by split <;> simp
  have hcnt : (cntM out : Int) = ((if out 0 = 1 then 1 else 0 : Nat) : Int) + ((if out 1 = 1 then 1 else 0 : Nat) : Int) + ((if out 2 = 1 then 1 else 0 : Nat) : Int) + ((if out 3 = 1 then 1 else 0 : Nat) : Int) + ((if out 4 = 1 then 1 else 0 : Nat) : Int) := by
    rw [← Int.natCast_add, ← Int.natCast_add, ← Int.natCast_add, ← Int.natCast_add]; rfl
  have l0 := le 0; have l1 := le 1; have l2 := le 2; have l3 := le 3; have l4 := le 4
  generalize ha0 : ((if out 0 = 1 then 1 else 0 : Nat) : Int) = a0 at l0 hcnt
  generalize ha1 : ((if out 1 = 1 then 1 else 0 : Nat) : Int) = a1 at l1 hcnt
  generalize ha2 : ((if out 2 = 1 then 1 else 0 : Nat) : Int) = a2 at l2 hcnt
  generalize ha3 : ((if out 3 = 1 then 1 else 0 : Nat) : Int) = a3 at l3 hcnt
  generalize ha4 : ((if out 4 = 1 then 1 else 0 : Nat) : Int) = a4 at l4 hcnt
  obtain ⟨x0, y0, z0, s0⟩ := s 0 (by omega) 0 (by omega) v171 v178 v183
  rw [ha0] at s0
  obtain ⟨x1, y1, z1, s1⟩ := s 1 (by omega) (0 + a0) (by omega) x0 y0 z0
  rw [ha1] at s1
  obtain ⟨x2, y2, z2, s2⟩ := s 2 (by omega) (0 + a0 + a1) (by omega) x1 y1 z1
  rw [ha2] at s2
  obtain ⟨x3, y3, z3, s3⟩ := s 3 (by omega) (0 + a0 + a1 + a2) (by omega) x2 y2 z2
  rw [ha3] at s3
  obtain ⟨x4, y4, z4, s4⟩ := s 4 (by omega) (0 + a0 + a1 + a2 + a3) (by omega) x3 y3 z3
  rw [ha4] at s4
  have r := (iter_normal (n := 99999) s0).trans ((iter_normal (n := 99998) s1).trans ((iter_normal (n := 99997) s2).trans ((iter_normal (n := 99996) s3).trans ((iter_normal (n := 99995) s4).trans (iter_exit (n := 99994) (e _ _ _ _))))))
  have hsum : 0 + a0 + a1 + a2 + a3 + a4 = t := by omega
  rw [hsum] at r
  replace r : iter 100000 (F14_b3 (run (knownG ks) 100000) 100000) [v0, v1, v4, pv p, v6, v36, v10, v40, v7, v8, pv aF, v14, v60, v67, v75, v15, v16, v11, v112, v116, v17, v12, v138, v19, v140, v18, v166, cv t, cv 0, v171, v178, v183, cv 0] H = _ := r
  have a6 := At_runs (G := knownG ks) hm 6 99999
  rw [di.at6] at a6
  have k6 := Kind_runs (G := knownG ks) 99997 w di.word_le H
  have hv : kindI w ≠ 5 := by
    rcases di.wv with hv | ⟨i, hi, h2, h5, _⟩
    · exact kind_isV hv
    · have := h6 i hi; omega
  have od := Odd_runs (G := knownG ks) hm 99999
  rw [di.odd] at od
  simp -implicitDefEqProofs [F14_j1_v, F14_j1v, r, F14_j2_v, F14_j2v, hk, eql_int, pick_bool, a6, k6, neq_int, hv, od]
theorem many_mkEnd (vS v1 v4 v5 v6 v36 v40 v7 v8 v9 v14 v60 v67 v75 v15 v16 v11 v112 v116 v17 v12 v138 v19 v140 v18 v166 v13 v21 v171 v178 v183 v20 : Value) :
    F14_b14 (run G 100000) 100000 [vS, v1, v4, v5, v6, v36, cv 5, v40, v7, v8, v9, v14, v60, v67, v75, v15, v16, v11, v112, v116, v17, v12, v138, v19, v140, v18, v166, v13, v21, v171, v178, v183, v20] H =
      some (.exit 0, [vS, v1, v4, v5, v6, v36, cv 5, .bool false, v7, v8, v9, v14, v60, v67, v75, v15, v16, v11, v112, v116, v17, v12, v138, v19, v140, v18, v166, v13, v21, v171, v178, v183, v20], H) := by
  simp -implicitDefEqProofs [F14_b14_v, F14_b14v, lss_int, fin]
abbrev D0 : Nat → DV := fun k => ⟨0, 3, 6, oldM k, newM k, 0, 0, 0⟩
theorem many_mk5 {tO tN tF : TypeId}
    (bO : B1 H o aO ⟨[cv 57, cv 57, cv 90, cv 98, cv 90], tO, 1, false⟩) (bN : B1 H o aN ⟨[cv 90, cv 98, cv 106, cv 114, cv 122], tN, 1, false⟩) (bF : B1 H o aF ⟨[.pointer none, .pointer none, .pointer none, .pointer none, .pointer none], tF, 1, false⟩)
    (hne : aO < aN ∧ aN < aF)
    (vS v1 v4 v5 v6 v36 v40 v14 v60 v67 v75 v15 v16 v11 v112 v116 v17 v12 v138 v19 v140 v18 v166 v13 v21 v171 v178 v183 v20 : Value) :
    ∃ (H' : Heap) (o' : Own) (fs : Nat → Nat), iter 100000 (F14_b14 (run G 100000) 100000) [vS, v1, v4, v5, v6, v36, cv 0, v40, pv aO, pv aN, pv aF, v14, v60, v67, v75, v15, v16, v11, v112, v116, v17, v12, v138, v19, v140, v18, v166, v13, v21, v171, v178, v183, v20] H =
      some (.exit 0, [vS, v1, v4, v5, v6, v36, cv 5, .bool false, pv aO, pv aN, pv aF, v14, v60, v67, v75, v15, v16, v11, v112, v116, v17, v12, v138, v19, v140, v18, v166, v13, v21, v171, v178, v183, v20], H') ∧
      B1 H' o' aO ⟨[cv 57, cv 57, cv 90, cv 98, cv 90], tO, 1, false⟩ ∧ B1 H' o' aN ⟨[cv 90, cv 98, cv 106, cv 114, cv 122], tN, 1, false⟩ ∧ B1 H' o' aF ⟨[pv (fs 0), pv (fs 1), pv (fs 2), pv (fs 3), pv (fs 4)], tF, 1, false⟩ ∧
      (∀ k, k < 5 → DcssR H' o' (fs k) (D0 k)) ∧ (∀ k, k < 5 → H.length ≤ fs k ∧ fs k < H'.length) ∧ (∀ j k, j < 5 → k < 5 → fs j = fs k → j = k) ∧ Fr H o H' o' [aF] := by
  have hlF := bF.lt
  obtain ⟨H1, e1, bF1, d1, f1⟩ := many_mk (G := G) (k := 0) (by omega) rfl bO bN bF vS v1 v4 v5 v6 v36 v40 v14 v60 v67 v75 v15 v16 v11 v112 v116 v17 v12 v138 v19 v140 v18 v166 v13 v21 v171 v178 v183 v20
  generalize o.up H.length H.length = o1 at bF1 d1 f1
  have bO1 := bO.fr f1 (by simp; omega)
  have bN1 := bN.fr f1 (by simp; omega)
  have l1 := d1.lt
  obtain ⟨H2, e2, bF2, d2, f2⟩ := many_mk (G := G) (k := 1) (by omega) rfl bO1 bN1 bF1 vS v1 v4 v5 v6 v36 (.bool true) v14 v60 v67 v75 v15 v16 v11 v112 v116 v17 v12 v138 v19 v140 v18 v166 v13 v21 v171 v178 v183 v20
  generalize o1.up H1.length H1.length = o2 at bF2 d2 f2
  have bO2 := bO1.fr f2 (by simp; omega)
  have bN2 := bN1.fr f2 (by simp; omega)
  have l2 := d2.lt
  obtain ⟨H3, e3, bF3, d3, f3⟩ := many_mk (G := G) (k := 2) (by omega) rfl bO2 bN2 bF2 vS v1 v4 v5 v6 v36 (.bool true) v14 v60 v67 v75 v15 v16 v11 v112 v116 v17 v12 v138 v19 v140 v18 v166 v13 v21 v171 v178 v183 v20
  generalize o2.up H2.length H2.length = o3 at bF3 d3 f3
  have bO3 := bO2.fr f3 (by simp; omega)
  have bN3 := bN2.fr f3 (by simp; omega)
  have l3 := d3.lt
  obtain ⟨H4, e4, bF4, d4, f4⟩ := many_mk (G := G) (k := 3) (by omega) rfl bO3 bN3 bF3 vS v1 v4 v5 v6 v36 (.bool true) v14 v60 v67 v75 v15 v16 v11 v112 v116 v17 v12 v138 v19 v140 v18 v166 v13 v21 v171 v178 v183 v20
  generalize o3.up H3.length H3.length = o4 at bF4 d4 f4
  have bO4 := bO3.fr f4 (by simp; omega)
  have bN4 := bN3.fr f4 (by simp; omega)
  have l4 := d4.lt
  obtain ⟨H5, e5, bF5, d5, f5⟩ := many_mk (G := G) (k := 4) (by omega) rfl bO4 bN4 bF4 vS v1 v4 v5 v6 v36 (.bool true) v14 v60 v67 v75 v15 v16 v11 v112 v116 v17 v12 v138 v19 v140 v18 v166 v13 v21 v171 v178 v183 v20
  generalize o4.up H4.length H4.length = o5 at bF5 d5 f5
  have bO5 := bO4.fr f5 (by simp; omega)
  have bN5 := bN4.fr f5 (by simp; omega)
  have l5 := d5.lt
  have e6 := many_mkEnd (G := G) (H := H5) vS v1 v4 v5 v6 v36 (.bool true) (pv aO) (pv aN) (pv aF) v14 v60 v67 v75 v15 v16 v11 v112 v116 v17 v12 v138 v19 v140 v18 v166 v13 v21 v171 v178 v183 v20
  have r := (iter_normal (n := 99999) e1).trans ((iter_normal (n := 99998) e2).trans ((iter_normal (n := 99997) e3).trans ((iter_normal (n := 99996) e4).trans ((iter_normal (n := 99995) e5).trans (iter_exit (n := 99994) e6)))))
  refine ⟨H5, o5, fun k => [H.length, H1.length, H2.length, H3.length, H4.length].getD k 0, r, bO5, bN5, bF5, fun k hk => ?_, fun k hk => ?_, fun j k hj hk e => ?_, (((f1.tr f2).tr f3).tr f4).tr f5⟩
  · rcases (show k = 0 ∨ k = 1 ∨ k = 2 ∨ k = 3 ∨ k = 4 by omega) with rfl | rfl | rfl | rfl | rfl
    · exact (((d1.fr f2 (by simp; omega)).fr f3 (by simp; omega)).fr f4 (by simp; omega)).fr f5 (by simp; omega)
    · exact ((d2.fr f3 (by simp; omega)).fr f4 (by simp; omega)).fr f5 (by simp; omega)
    · exact (d3.fr f4 (by simp; omega)).fr f5 (by simp; omega)
    · exact d4.fr f5 (by simp; omega)
    · exact d5
  · rcases (show k = 0 ∨ k = 1 ∨ k = 2 ∨ k = 3 ∨ k = 4 by omega) with rfl | rfl | rfl | rfl | rfl <;> simp <;> omega
  · rcases (show j = 0 ∨ j = 1 ∨ j = 2 ∨ j = 3 ∨ j = 4 by omega) with rfl | rfl | rfl | rfl | rfl <;> rcases (show k = 0 ∨ k = 1 ∨ k = 2 ∨ k = 3 ∨ k = 4 by omega) with rfl | rfl | rfl | rfl | rfl <;> simp at e ⊢ <;> omega
theorem many_init (hcs : M.cs = [1, 0, 0, 0, 0, 57, 0]) (hmx : M.max = 400) (hod : M.odd = 0) : DI M D0 (fun _ => none) (fun _ => 0) (fun _ => 0) 57 := by
  have hmd : madeN D0 = 0 := rfl
  refine ⟨by rw [hmd, hcs]; rfl, hmx, hod, by simp [MV.at, hcs], fun i hi => ⟨⟨rfl, rfl, rfl, rfl, by simp, by simp⟩, by simp, by simp, by simp, by simp, ?_, by simp, by simp, by simp, by simp⟩, by simp, .inl (.inl rfl), by simp⟩
  intro p; have := p.1; simp at this
theorem arr5 (H : Heap) (o : Own) (ty : TypeId) (a b c d e : Int) : ∃ H1 H2, newBlk H ty 1 [cv 0, cv 0, cv 0, cv 0, cv 0] = (pv H.length, H1) ∧ stS 5 (pv H.length) (.agg #[cv a, cv b, cv c, cv d, cv e]) H1 = some (undef, H2) ∧
    B1 H2 (o.up H.length H.length) H.length ⟨[cv a, cv b, cv c, cv d, cv e], ty, 1, false⟩ ∧ Fr H o H2 (o.up H.length H.length) [] := by
  have f1 : Fr H o (H.new ⟨[cv 0, cv 0, cv 0, cv 0, cv 0], ty, 1, false⟩) (o.up H.length H.length) [] := (Fr.refl _ _ _).new _ _
  have b1 : B1 (H.new ⟨[cv 0, cv 0, cv 0, cv 0, cv 0], ty, 1, false⟩) (o.up H.length H.length) H.length ⟨[cv 0, cv 0, cv 0, cv 0, cv 0], ty, 1, false⟩ := B1.new _ _ _
  have hst : stS 5 (pv H.length) (.agg #[cv a, cv b, cv c, cv d, cv e]) (H.new ⟨[cv 0, cv 0, cv 0, cv 0, cv 0], ty, 1, false⟩) = some (undef, (H.new ⟨[cv 0, cv 0, cv 0, cv 0, cv 0], ty, 1, false⟩).put H.length ⟨[cv a, cv b, cv c, cv d, cv e], ty, 1, false⟩) := by
    simp [stS, Value.cells, known, stCells, b1.1, oneCell, splice]
  exact ⟨_, _, rfl, hst, b1.put, f1.put fun h => by omega⟩
theorem many_stop {l : List Int} {vS : Value} {i : Nat} (hv : IntsR H o (-1) vS l) (h300 : l.length ≤ 300) (hi : ¬ i < l.length + 100)
    (v1 v4 v5 v6 v36 v10 v40 v7 v8 v9 v60 v67 v75 v15 v16 v11 v112 v116 v17 v12 v138 v19 v140 v18 v166 v13 v21 v171 v178 v183 v20 : Value) :
    F14_b5 (run G 100000) 100000 [vS, v1, v4, v5, v6, v36, v10, v40, v7, v8, v9, cv i, v60, v67, v75, v15, v16, v11, v112, v116, v17, v12, v138, v19, v140, v18, v166, v13, v21, v171, v178, v183, v20] H =
      some (.exit 2, [vS, v1, v4, v5, v6, v36, v10, v40, v7, v8, v9, cv i, .bool false, v67, v75, v15, v16, v11, v112, v116, v17, v12, v138, v19, v140, v18, v166, v13, v21, v171, v178, v183, v20], H) := by
  have hvl := hv.1.len
  have g1 : IntKind.i64.wrap ((l.length : Int) + 100) = (l.length : Int) + 100 := w64 (by omega)
  have g2 : ¬ (i : Int) < (l.length : Int) + 100 := by omega
  simp -implicitDefEqProofs [F14_b5_v, F14_b5v, hvl, add_int, g1, lss_int, g2, fin]
theorem many_j0 {l : List Int} {vS : Value} {tO tN tF : TypeId} (hm : MemR H o p M) (hcs : M.cs = [1, 0, 0, 0, 0, 57, 0]) (hmx : M.max = 400) (hod : M.odd = 0)
    (bO : B1 H o aO ⟨[cv 57, cv 57, cv 90, cv 98, cv 90], tO, 1, false⟩) (bN : B1 H o aN ⟨[cv 90, cv 98, cv 106, cv 114, cv 122], tN, 1, false⟩) (bF : B1 H o aF ⟨[pv (fs 0), pv (fs 1), pv (fs 2), pv (fs 3), pv (fs 4)], tF, 1, false⟩)
    (hd : ∀ k, k < 5 → DcssR H o (fs k) (D0 k)) (ord : p < aO ∧ aO < aN ∧ aN < aF) (hf : ∀ k, k < 5 → aF < fs k ∧ fs k < H.length) (inj : ∀ j k, j < 5 → k < 5 → fs j = fs k → j = k)
    (hv : IntsR H o (-1) vS l) (hsh : vS = .slice none 0 0 ∨ ∃ i, vS = .slice (some ⟨i, 0, none⟩) l.length l.length) (hw64 : ∀ z ∈ l, W64 z) {when : Int} (hwhen : W64 when)
    (v4 v6 v36 v10 v40 v14 v60 v67 v75 v15 v16 v11 v112 v116 v17 v12 v138 v19 v140 v18 v166 v13 v21 v171 v178 v183 v20 : Value) :
    ∃ H', F14_j0 (run (knownG ks) 100000) 100000 [vS, cv when, v4, pv p, v6, v36, v10, v40, pv aO, pv aN, pv aF, v14, v60, v67, v75, v15, v16, v11, v112, v116, v17, v12, v138, v19, v140, v18, v166, v13, v21, v171, v178, v183, v20] H = some (.bool true, H') := by
  have f1 : Fr H o (H.new ⟨[.pointer none, .pointer none, .pointer none, .pointer none, .pointer none], 75, 1, false⟩) (o.up H.length H.length) [] := (Fr.refl _ _ _).new _ _
  have b1 : B1 (H.new ⟨[.pointer none, .pointer none, .pointer none, .pointer none, .pointer none], 75, 1, false⟩) (o.up H.length H.length) H.length ⟨[.pointer none, .pointer none, .pointer none, .pointer none, .pointer none], 75, 1, false⟩ := B1.new _ _ _
  have hnb : newBlk H 75 1 [.pointer none, .pointer none, .pointer none, .pointer none, .pointer none] = (pv H.length, H.new ⟨[.pointer none, .pointer none, .pointer none, .pointer none, .pointer none], 75, 1, false⟩) := rfl
  generalize H.new ⟨[.pointer none, .pointer none, .pointer none, .pointer none, .pointer none], 75, 1, false⟩ = H1 at f1 b1 hnb
  generalize o.up H.length H.length = o1 at f1 b1
  have m1 := hm.fr f1 (by simp)
  have v1 := hv.fr f1 (by simp)
  obtain ⟨vS', ef, vs'⟩ := Few_runs (G := knownG ks) v1 hsh 99999
  have all : MAll H1 o1 p aO aN aF H.length fs (fun _ => none) D0 (fun _ => none) := by
    refine ⟨⟨_, bO.fr f1 (by simp)⟩, ⟨_, bN.fr f1 (by simp)⟩, ⟨_, bF.fr f1 (by simp)⟩, ⟨_, b1⟩, fun k hk => (hd k hk).fr f1 (by simp), by simp, by simp, ord, hf, by simp, inj, by simp⟩
  have di := many_init hcs hmx hod
  have lg := Logic_runs (G := knownG ks) m1 6 (by rw [di.at6]; omega) 99995
  have hlg : logicI M 6 = 57 := by unfold logicI; rw [di.at6]; rw [if_pos (by decide)]
  rw [hlg] at lg
  have h300 : (l.take 300).length ≤ 300 := by simp; omega
  have hw' : ∀ z ∈ l.take 300, W64 z := fun z hz => hw64 z (List.mem_of_mem_take hz)
  generalize l.take 300 = l' at vs' h300 hw'
  have hgo : ∀ j, j < 5 → l'.length ≤ 0 → (D0 j).next = 6 ∨ (ownN j 0 : Int) ≤ ownN j l'.length + (D0 j).next := fun j hj hl => .inr (by rw [show l'.length = 0 by omega]; simp)
  have r0 : Rd H1 o1 p aO aN aF H.length fs (fun _ => none) D0 (fun _ => none) M (fun _ => 0) (fun _ => 0) 57 vS' l' 57 0 0 :=
    ⟨all, m1, di, vs', .inl ⟨.inl rfl, rfl⟩, rfl, hgo⟩
  obtain ⟨r, hit, hne, hr1, o9, hs9, D9, h9, M9, K9, out9, w9, L9, t9, ⟨v60', v67', v75', v15', v16', v112', v116', v17', v138', v19', v140', v18', v166', hr2⟩, rd9, h6⟩ := iter_go (step := F14_b5 (run (knownG ks) 100000) 100000)
    (Q := fun k vs H' => ∃ (i : Nat) (o' : Own) (hs' : Nat → Option Nat) (D' : Nat → DV) (h' : Nat → Option HV) (M' : MV) (K' : Nat → Nat) (out' : Nat → Int) (w' L' t' : Int) (v60 v67 v75 v15 v16 v112 v116 v17 v138 v19 v140 v18 v166 : Value), i + k = l'.length + 100 ∧
      vs = [vS', cv when, v4, pv p, v6, v36, v10, v40, pv aO, pv aN, pv aF, cv i, v60, v67, v75, v15, v16, pv H.length, v112, v116, v17, cv L', v138, v19, v140, v18, v166, cv t', v21, v171, v178, v183, v20] ∧
      Rd H' o' p aO aN aF H.length fs hs' D' h' M' K' out' w' vS' l' L' t' i)
    (R := fun r => r.1 = .exit 2 ∧ ∃ (o' : Own) (hs' : Nat → Option Nat) (D' : Nat → DV) (h' : Nat → Option HV) (M' : MV) (K' : Nat → Nat) (out' : Nat → Int) (w' L' t' : Int),
      (∃ v60 v67 v75 v15 v16 v112 v116 v17 v138 v19 v140 v18 v166 : Value, r.2.1 = [vS', cv when, v4, pv p, v6, v36, v10, v40, pv aO, pv aN, pv aF, cv ((l'.length + 100 : Nat) : Int), v60, v67, v75, v15, v16, pv H.length, v112, v116, v17, cv L', v138, v19, v140, v18, v166, cv t', v21, v171, v178, v183, v20]) ∧
      Rd r.2.2 o' p aO aN aF H.length fs hs' D' h' M' K' out' w' vS' l' L' t' (l'.length + 100) ∧ ∀ j, j < 5 → (D' j).next = 6)
    (by
      rintro k vs H' ⟨i, o', hs', D', h', M', K', out', w', L', t', v60, v67, v75, v15, v16, v112, v116, v17, v138, v19, v140, v18, v166, hi, rfl, rd⟩
      by_cases hil : i < l'.length + 100
      · obtain ⟨H2, o2, hs2, D2, h2, M2, K2, out2, w2, L2, t2, e60, e67, e75, e15, e16, e112, e116, e17, e138, e19, e140, e18, e166, hst, rd2⟩ := many_round (G := knownG ks) rd hw' h300 hil hwhen v4 v6 v36 v10 v40 v60 v67 v75 v15 v16 v112 v116 v17 v138 v19 v140 v18 v166 v21 v171 v178 v183 v20
        exact .inl ⟨_, _, k - 1, by omega, hst, i + 1, o2, hs2, D2, h2, M2, K2, out2, w2, L2, t2, _, _, _, _, _, _, _, _, _, _, _, _, _, by omega, rfl, rd2⟩
      · obtain rfl : i = l'.length + 100 := by omega
        refine .inr ⟨_, many_stop (G := knownG ks) rd.sch h300 hil (cv when) v4 (pv p) v6 v36 v10 v40 (pv aO) (pv aN) (pv aF) v60 v67 v75 v15 v16 (pv H.length) v112 v116 v17 (cv L') v138 v19 v140 v18 v166 (cv t') v21 v171 v178 v183 v20, by simp, rfl, o', hs', D', h', M', K', out', w', L', t', ⟨_, _, _, _, _, _, _, _, _, _, _, _, _, rfl⟩, rd, fun j hj => ?_⟩
        have g := rd.go j hj (by omega)
        have ot := own_tail j l'.length
        have n5 := (rd.di.one j hj).fr
        omega)
    (l'.length + 100) [vS', cv when, v4, pv p, v6, v36, v10, v40, pv aO, pv aN, pv aF, cv (0 : Nat), v60, v67, v75, v15, v16, pv H.length, v112, v116, v17, cv 57, v138, v19, v140, v18, v166, cv 0, v21, v171, v178, v183, v20] H1
    ⟨0, o1, _, _, _, M, _, _, 57, 57, 0, _, _, _, _, _, _, _, _, _, _, _, _, _, by omega, rfl, r0⟩ 100000 (by omega)
  obtain ⟨x1, x2, H9⟩ := r
  simp only at hr1 hr2 rd9
  subst hr1 hr2
  replace hit : iter 100000 (F14_b5 (run (knownG ks) 100000) 100000) [vS', cv when, v4, pv p, v6, v36, v10, v40, pv aO, pv aN, pv aF, cv 0, v60, v67, v75, v15, v16, pv H.length, v112, v116, v17, cv 57, v138, v19, v140, v18, v166, cv 0, v21, v171, v178, v183, v20] H1 = _ := hit
  have dn := many_done rd9.all rd9.mem rd9.di h6 t9 rd9.cnt vS' (cv when) v4 v6 v36 v10 v40 (pv aO) (pv aN) (cv ((l'.length + 100 : Nat) : Int)) v60' v67' v75' v15' v16' (pv H.length) v112' v116' v17' (cv L9) v138' v19' v140' v18' v166' v21 v171 v178 v183 v20
  refine ⟨H9, ?_⟩
  simp -implicitDefEqProofs [-Int.natCast_add, F14_j0_v, F14_j0v, hnb, ef, lg, hit, dn]
theorem DcssMany_run {H : Heap} {vS : Value} {l : List Int} (hv : IntsR H o0 (-1) vS l) (hsh : vS = .slice none 0 0 ∨ ∃ i, vS = .slice (some ⟨i, 0, none⟩) l.length l.length) (hl : ∀ z ∈ l, W64 z) (when : Int) (hwhen : W64 when) :
    ∃ n H', run (knownG ks) n 14 [vS, cv when] H = some (.bool true, H') := by
  refine ⟨100001, ?_⟩
  rw [F14_eq]
  obtain ⟨H1, e1, m1, f1⟩ := New_runs (G := knownG ks) (H := H) o0 400 (by omega) 99999
  obtain ⟨H2, o2, e2, m2, f2⟩ := Begin_runs (G := knownG ks) m1 rfl (by simp [MV.fresh]) 99987
  have hcs0 : (MV.fresh 400).begun.cs = [1, 0, 0, 0, 0, 57, 0] := rfl
  have hmx0 : (MV.fresh 400).begun.max = 400 := rfl
  have hod0 : (MV.fresh 400).begun.odd = 0 := rfl
  generalize (MV.fresh 400).begun = M at m2 hcs0 hmx0 hod0
  have hbO : abuild Try.prog 73 [(0, cv 57), (1, cv 57), (2, cv 90), (3, cv 98), (4, cv 90)] = some (.agg #[cv 57, cv 57, cv 90, cv 98, cv 90]) := by kernel_rfl
  have hbN : abuild Try.prog 73 [(0, cv 90), (1, cv 98), (2, cv 106), (3, cv 114), (4, cv 122)] = some (.agg #[cv 90, cv 98, cv 106, cv 114, cv 122]) := by kernel_rfl
  have l2 := m2.lt
  obtain ⟨H3, H4, n3, s4, b4, f4⟩ := arr5 H2 o2 73 57 57 90 98 90
  generalize ho4 : o2.up H2.length H2.length = o4 at b4 f4
  have l4 := b4.lt
  obtain ⟨H5, H6, n5, s6, b6, f6⟩ := arr5 H4 o4 73 90 98 106 114 122
  generalize ho6 : o4.up H4.length H4.length = o6 at b6 f6
  have l6 := b6.lt
  have f7 : Fr H6 o6 (H6.new ⟨[.pointer none, .pointer none, .pointer none, .pointer none, .pointer none], 74, 1, false⟩) (o6.up H6.length H6.length) [] := (Fr.refl _ _ _).new _ _
  have b7 : B1 (H6.new ⟨[.pointer none, .pointer none, .pointer none, .pointer none, .pointer none], 74, 1, false⟩) (o6.up H6.length H6.length) H6.length ⟨[.pointer none, .pointer none, .pointer none, .pointer none, .pointer none], 74, 1, false⟩ := B1.new _ _ _
  have n7 : newBlk H6 74 1 [.pointer none, .pointer none, .pointer none, .pointer none, .pointer none] = (pv H6.length, H6.new ⟨[.pointer none, .pointer none, .pointer none, .pointer none, .pointer none], 74, 1, false⟩) := rfl
  generalize H6.new ⟨[.pointer none, .pointer none, .pointer none, .pointer none, .pointer none], 74, 1, false⟩ = H7 at f7 b7 n7
  generalize ho7 : o6.up H6.length H6.length = o7 at b7 f7
  have l7 := b7.lt
  have bO := (b4.fr f6 (by simp)).fr f7 (by simp)
  have bN := b6.fr f7 (by simp)
  have m7 := ((m2.fr f4 (by simp)).fr f6 (by simp)).fr f7 (by simp)
  have v7 := ((((hv.fr f1 (by simp)).fr f2 (nm (by omega) _)).fr f4 (by simp)).fr f6 (by simp)).fr f7 (by simp)
  obtain ⟨H8, o8, fs, hit, bO8, bN8, bF8, d8, lo8, inj8, f8⟩ := many_mk5 (G := knownG ks) bO bN b7 (by omega) vS (cv when) (.bool false) (pv H.length) (cv 0) (.bool false) undef undef undef undef undef undef undef undef undef undef undef undef undef undef undef undef undef undef undef undef undef undef undef
  have m8 := m7.fr f8 (by simp; omega)
  have v8 := v7.fr f8 (nm (by omega) _)
  obtain ⟨H9, z⟩ := many_j0 (p := H.length) m8 hcs0 hmx0 hod0 bO8 bN8 bF8 d8 (by omega) (fun k hk => by have := lo8 k hk; omega) inj8 v8 hsh hl hwhen (.bool false) (cv 0) (.bool false) (cv 5) (.bool false) undef undef undef undef undef undef undef undef undef undef undef undef undef undef undef undef undef undef undef undef undef undef
  refine ⟨H9, ?_⟩
  simp -implicitDefEqProofs [F14, e1, ext_i, ptr_eql_nil _ ptM, neq_int, pick_bool, e2, not_bool, hbO, hbN, n3, s4, n5, s6, n7, hit, z]
end
end Go.Proofs.Ytpenlcigickkbaa.Fun
namespace Go.Proofs.Ytpenlcigickkbaa.Pure
open Go.RowKit Go.Proofs.YtpenlcigickkbaaA.Am Fun
theorem DcssMany_law : Law Try.prog 14 [22, 3] := law_of fun H args hr hi => by
  obtain ⟨v0, _, rfl, h0, v1, _, rfl, h1, rfl⟩ := hi
  obtain ⟨b, rfl, hb⟩ := h1.int (show Try.prog.underlying 3 = _ from by kernel_rfl)
  have ht : Try.prog.underlying 22 = some (.slice 3) := by kernel_rfl
  obtain ⟨w, hv, hw, _⟩ := h0.ints (show Try.prog.underlying 22 = _ from by kernel_rfl) (show Try.prog.underlying 3 = _ from by kernel_rfl) (by kernel_rfl)
  refine DcssMany_run hv ?_ hw b hb
  rcases In.slice ht (h0.one (by simp [ht])) with e | ⟨i, es, e, _⟩
  · cases e; exact .inl rfl
  · cases e
    obtain ⟨b', c', e'⟩ := hv.1.isSlice
    injection e' with a1 a2 a3
    exact .inr ⟨i, by rw [a2]⟩
end Go.Proofs.Ytpenlcigickkbaa.Pure
