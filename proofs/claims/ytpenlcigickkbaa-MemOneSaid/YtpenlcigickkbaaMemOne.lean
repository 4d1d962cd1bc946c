/- MemOne over the abstract machine. -/
import Derived.Test.YtpenlcigickkbaaRef
import Derived.Test.YtpenlcigickkbaaKnown
import Derived.Test.YtpenlcigickkbaaFunMemOne
namespace Go.Proofs.Ytpenlcigickkbaa.Fun
open Go.RowKit Go.Proofs.YtpenlcigickkbaaA.Am
set_option linter.unusedVariables false
set_option linter.unusedSimpArgs false
/-- An operation, as it came in. -/
structure OpV where
  kind : Int
  a : Int
  near : Bool
  x : Int
  y : Int
  w : List Int
abbrev opCells (O : OpV) (W : Value) : List Value := [cv O.kind, cv O.a, .bool O.near, cv O.x, cv O.y, W]
def OpOk (O : OpV) : Prop := W64 O.kind ∧ W64 O.a ∧ W64 O.x ∧ W64 O.y ∧ (∀ x ∈ O.w, W64 x) ∧ O.w.length ≤ maxLen
theorem opStruct : structIs Try.prog 42 [3, 3, 4, 2, 2, 28] = true := by kernel_rfl
theorem opIn {H : Heap} {f : Nat} {cs : List Value} (h : In Try.prog H (f + 3) 42 cs) : ∃ O W, cs = opCells O W ∧ OpOk O ∧ IntsR H o0 (-1) W O.w := by
  obtain ⟨fs, he, ht⟩ := structIs_ex opStruct
  unfold In at h
  rw [he] at h
  simp only at h
  generalize fs.toList = l at h ht
  obtain ⟨f0, l, rfl, h0, ht⟩ := List.map_eq_cons_iff.1 ht
  obtain ⟨f1, l, rfl, h1, ht⟩ := List.map_eq_cons_iff.1 ht
  obtain ⟨f2, l, rfl, h2, ht⟩ := List.map_eq_cons_iff.1 ht
  obtain ⟨f3, l, rfl, h3, ht⟩ := List.map_eq_cons_iff.1 ht
  obtain ⟨f4, l, rfl, h4, ht⟩ := List.map_eq_cons_iff.1 ht
  obtain ⟨f5, l, rfl, h5, ht⟩ := List.map_eq_cons_iff.1 ht
  have : l = [] := by simpa using ht
  subst this
  obtain ⟨a0, _, rfl, _, i0, a1, _, rfl, _, i1, a2, _, rfl, _, i2, a3, _, rfl, _, i3, a4, _, rfl, _, i4, a5, _, rfl, _, i5, rfl⟩ := h
  rw [h0] at i0; rw [h1] at i1; rw [h2] at i2; rw [h3] at i3; rw [h4] at i4; rw [h5] at i5
  obtain ⟨k, rfl, hk⟩ := In.int (show Try.prog.underlying 3 = _ from by kernel_rfl) i0
  obtain ⟨a, rfl, ha⟩ := In.int (show Try.prog.underlying 3 = _ from by kernel_rfl) i1
  obtain ⟨b, rfl⟩ := In.bool (show Try.prog.underlying 4 = _ from by kernel_rfl) i2
  obtain ⟨x, rfl, hx⟩ := In.int (show Try.prog.underlying 2 = _ from by kernel_rfl) i3
  obtain ⟨y, rfl, hy⟩ := In.int (show Try.prog.underlying 2 = _ from by kernel_rfl) i4
  obtain ⟨W, w, rfl, hw, hww, hm⟩ := In.ints slI (show Try.prog.underlying 2 = _ from by kernel_rfl) (by kernel_rfl) i5
  exact ⟨⟨k, a, b, x, y, w⟩, W, rfl, ⟨hk, ha, hx, hy, hww, hm⟩, hw⟩
/-- The struct that is boxed. -/
theorem box_op (O : OpV) {H : Heap} {o : Own} {W : Value} (hW : IntsR H o (-1) W O.w) : boxS 42 (.agg (opCells O W).toArray) H = some (pv H.length, H.new ⟨opCells O W, 42, 1, false⟩) := by
  obtain ⟨b, c, rfl⟩ := hW.1.isSlice
  simp [boxS, Value.cells, oneCell, newBlk]
theorem one_check {C : Oracle} {s v a1 v3 v26 v5 v6 v37 v8 v53 v63 v72 v10 v86 v87 v90 v98 v60 v109 : Value} {j : Nat} {want : Int} {c w : List Int} {K : Nat} {H : Heap} (hs : Ints H s c) (hv : Ints H v w) (hlen : c.length = w.length) (hj : j < w.length)
    (hc : c = w.set j want) (hK : w.length < K) (h65 : w.length ≤ 65536) (v113 v144 : Value) :
    ∃ d12 d113 d144, iter K (F5_b1 C K) [v, a1, .bool false, v3, v26, v5, v6, v37, cv ((j : Int) + 1), v8, v53, v63, v72, v10, v86, v87, v90, v98, v60, s, v109, cv 0, v113, cv want, v144] H =
      some (.exit 1, [v, a1, .bool false, v3, v26, v5, v6, v37, cv ((j : Int) + 1), v8, v53, v63, v72, v10, v86, v87, v90, v98, v60, s, v109, d12, d113, cv want, d144], H) := by
  have hwj : IntKind.i64.wrap ((j : Int) + 1 - 1) = j := by rw [w64 (by omega)]; omega
  have hwj' : IntKind.i64.wrap (j : Int) = j := w64 (by omega)
  obtain ⟨r, hit, hne, h1, d12, d113, d144, h2⟩ := iter_go (step := F5_b1 C K)
    (Q := fun k vs H' => H' = H ∧ ∃ (i : Nat) (d113 d144 : Value), i + k = w.length ∧ vs = [v, a1, .bool false, v3, v26, v5, v6, v37, cv ((j : Int) + 1), v8, v53, v63, v72, v10, v86, v87, v90, v98, v60, s, v109, cv i, d113, cv want, d144])
    (R := fun r => r.1 = .exit 1 ∧ ∃ d12 d113 d144, r.2 = ([v, a1, .bool false, v3, v26, v5, v6, v37, cv ((j : Int) + 1), v8, v53, v63, v72, v10, v86, v87, v90, v98, v60, s, v109, d12, d113, cv want, d144], H))
    (by
      rintro k vs H' ⟨rfl, i, d113, d144, hi, rfl⟩
      have hvl := hv.len
      cases k with
      | zero =>
        have h1 : ¬ ((i : Int) < w.length) := by omega
        refine .inr ⟨(.exit 1, [v, a1, .bool false, v3, v26, v5, v6, v37, cv ((j : Int) + 1), v8, v53, v63, v72, v10, v86, v87, v90, v98, v60, s, v109, cv i, .bool false, cv want, d144], H'), ?_, by simp, rfl, _, _, _, rfl⟩
        simp -implicitDefEqProofs [F5_b1_v, F5_b1v, hvl, lss_int, h1, fin]
      | succ k =>
        have h1 : ((i : Int) < w.length) := by omega
        obtain ⟨q, off, b, hix, hb, hc1⟩ := hs.idx (j := i) (by omega)
        obtain ⟨q2, off2, b2, hix2, hb2, hc2⟩ := hv.idx (j := i) (by omega)
        have hw : IntKind.i64.wrap ((i : Int) + 1) = ((i + 1 : Nat) : Int) := by rw [w64 (by omega)]; omega
        refine .inl ⟨[v, a1, .bool false, v3, v26, v5, v6, v37, cv ((j : Int) + 1), v8, v53, v63, v72, v10, v86, v87, v90, v98, v60, s, v109, cv ((i + 1 : Nat) : Int), .bool true, cv want, .bool false], H', k, Nat.lt_succ_self k, ?_, rfl, i + 1, _, _, by omega, rfl⟩
        by_cases hij : i = j
        · subst hij
          have hval : c.getD i 0 = want := by rw [hc, List.getD_eq_getElem?_getD, List.getElem?_set_self (by omega)]; rfl
          rw [hval] at hc1
          simp -implicitDefEqProofs [-List.getD_eq_getElem?_getD, -Int.natCast_add, F5_b1_v, F5_b1v, hvl, lss_int, h1, sub_int, hwj, hwj', neq_int, pick_bool, hix, ld1_pv _ _ _ hb, hc1, eql_int, add_int, hw, fin]
        · have hval : c.getD i 0 = w.getD i 0 := by rw [hc, List.getD_eq_getElem?_getD, List.getElem?_set_ne (fun e => hij e.symm), List.getD_eq_getElem?_getD]
          have hne : ¬ ((i : Int) = j) := by omega
          rw [hval] at hc1
          simp -implicitDefEqProofs [-List.getD_eq_getElem?_getD, -Int.natCast_add, F5_b1_v, F5_b1v, hvl, lss_int, h1, sub_int, hwj, hwj', neq_int, hne, hij, pick_bool, hix, hix2, ld1_pv _ _ _ hb, ld1_pv _ _ _ hb2, hc1, hc2, eql_int, add_int, hw, fin])
    w.length [v, a1, .bool false, v3, v26, v5, v6, v37, cv ((j : Int) + 1), v8, v53, v63, v72, v10, v86, v87, v90, v98, v60, s, v109, cv (0 : Nat), v113, cv want, v144] H ⟨rfl, 0, _, _, by omega, rfl⟩ K hK
  obtain ⟨e, vs, H'⟩ := r
  simp only [Prod.mk.injEq] at h1 h2
  obtain ⟨h2, rfl⟩ := h2
  subst h1 h2
  exact ⟨d12, d113, d144, hit⟩
/-- What is checked behind the access. -/
theorem one_cont {H : Heap} {o : Own} {v a1 v3 v26 v6 v37 v8 v53 v63 v72 v10 v86 v87 v90 v98 v60 v11 v109 v12 v113 v144 : Value} {p : Nat} {M : MV} {j : Nat} {want : Int} {w : List Int} (hv : IntsR H o (-1) v w) (hm : MemR H o p M) (hj : j < w.length) (hcs : M.cs = w.set j want) (hcnt : M.cnt = 2) (h65 : w.length ≤ 100) :
    ∃ H', F5_j0 (run (knownG ks) 100000) 100000 [v, a1, .bool false, v3, v26, pv p, v6, v37, cv ((j : Int) + 1), v8, v53, v63, v72, v10, v86, v87, v90, v98, v60, v11, v109, v12, v113, cv want, v144] H = some (.bool true, H') := by
  have hk := fun H => known_runs 19 (by decide) 99999 H
  obtain ⟨s, H1, o1, e1, s1, f1⟩ := Cells_runs (G := knownG ks) hm (-2) 99998
  have m1 := hm.fr f1 (by simp)
  have v1 := hv.fr f1 (by simp)
  have hsl := s1.ints.1.len
  have hvl := v1.1.len
  have hlen : M.cs.length = w.length := by rw [hcs]; simp
  have hlen' : (M.cs.length : Int) = w.length := by omega
  obtain ⟨d12, d113, d144, e2⟩ := one_check (C := run (knownG ks) 100000) (a1 := a1) (v3 := v3) (v26 := v26) (v5 := pv p) (v6 := v6) (v37 := v37) (v8 := v8) (v53 := v53) (v63 := v63) (v72 := v72) (v10 := v10) (v86 := v86) (v87 := v87) (v90 := v90) (v98 := v98) (v60 := v60) (v109 := .bool false) (K := 100000) s1.ints.1 v1.1 hlen hj hcs (by omega) (by omega) v113 v144
  have c1 := Count_runs (G := knownG ks) m1 99999
  rw [hcnt] at c1
  refine ⟨H1, ?_⟩
  simp -implicitDefEqProofs [F5_j0_v, F5_j0v, e1, hsl, hvl, neq_int, hlen, e2, F5_j2_v, F5_j2v, hk, c1, eql_int, pick_bool]
theorem blT : Try.prog.underlying 4 = some .bool := by kernel_rfl
theorem MemOne_run {H : Heap} {v W : Value} {w : List Int} {O : OpV} (hv : IntsR H o0 (-1) v w) (hW : IntsR H o0 (-1) W O.w) (hO : OpOk O) : ∃ n H', run (knownG ks) n 5 [v, .agg (opCells O W).toArray] H = some (.bool true, H') := by
  refine ⟨100001, ?_⟩
  rw [F5_eq]
  have hk := fun H => known_runs 19 (by decide) 99999 H
  have hbox := box_op O hW
  have f1 : Fr H o0 (H.new ⟨opCells O W, 42, 1, false⟩) (o0.up H.length H.length) [] := (Fr.refl _ _ _).new _ _
  have b1 := B1.new H o0 ⟨opCells O W, 42, 1, false⟩
  generalize H.new ⟨opCells O W, 42, 1, false⟩ = H1 at hbox f1 b1
  have v1 := hv.fr f1 (by simp)
  have w1 := hW.fr f1 (by simp)
  have hvl := v1.1.len
  have hwl := w1.1.len
  have L1 := fun i => ld1_pv H.length i H1 b1.1
  by_cases h0 : (w.length : Int) = 0
  · refine ⟨H1, ?_⟩
    simp -implicitDefEqProofs [F5, hbox, hvl, eql_int, h0, pick_bool, hk]
  by_cases hl : (w.length : Int) > 100
  · refine ⟨H1, ?_⟩
    simp -implicitDefEqProofs [-gt_iff_lt, -Int.natCast_eq_zero, F5, hbox, hvl, eql_int, h0, pick_bool, gtr_int, hl, hk]
  by_cases hl2 : (O.w.length : Int) > 100
  · refine ⟨H1, ?_⟩
    simp -implicitDefEqProofs [-gt_iff_lt, -Int.natCast_eq_zero, F5, hbox, hvl, eql_int, h0, pick_bool, gtr_int, hl, fad_pv, L1, hwl, hl2, hk]
  obtain ⟨H2, e2, m2, f2⟩ := New_runs (G := knownG ks) (H := H1) (o0.up H.length H.length) 300 (by omega) 99999
  have hlt := b1.lt
  have v2 := v1.fr f2 (by simp)
  have b2 := b1.fr f2 (by simp)
  obtain ⟨H3, o3, e3, m3, f3⟩ := Make_runs (G := knownG ks) m2 v2 (by omega) (by simp [MV.fresh]) (by simp [MV.fresh]) (by omega) 99999
  have v3 := v2.fr f3 (nm (by omega) _)
  have b3 := b2.fr f3 (nm2 (by omega))
  have hcs := made_cs 300 w (by omega)
  have hcnt : ((MV.fresh 300).made w).cnt = 1 := made_cnt _ _
  generalize (MV.fresh 300).made w = M at m3 hcs hcnt
  have hb1 := Int.emod_nonneg O.a (show (w.length : Int) ≠ 0 by omega)
  have hb2 := Int.emod_lt_of_pos O.a (show (0 : Int) < w.length by omega)
  have hcut := Cut_runs (G := knownG ks) 99999 O.a w.length hO.2.1 (by omega) H3
  generalize O.a % (w.length : Int) = r at hcut hb1 hb2
  obtain ⟨j, rfl⟩ : ∃ j : Nat, r = j := ⟨r.toNat, by omega⟩
  have hw1 : IntKind.i64.wrap (1 + (j : Int)) = (j : Int) + 1 := by rw [w64 (by omega)]; omega
  have hj : j < w.length := by omega
  have hvl3 := v3.1.len
  have hat := At_runs (G := knownG ks) m3 ((j : Int) + 1) 99999
  rw [at_in, hcs] at hat
  generalize hwas : w.getD j 0 = was at hat
  have L3 := fun i => ld1_pv H.length i H3 b3.1
  have hcut2 := Cut_runs (G := knownG ks) 99999 O.kind 4 hO.1 (by omega) H3
  have hk1 := Int.emod_nonneg O.kind (show (4 : Int) ≠ 0 by omega)
  have hk2 := Int.emod_lt_of_pos O.kind (show (0 : Int) < 4 by omega)
  generalize O.kind % 4 = kd at hcut2 hk1 hk2
  have hin : 1 ≤ (j : Int) + 1 ∧ (j : Int) + 1 ≤ (M.cs.length : Int) := by rw [hcs]; omega
  have hset : ∀ x, (M.acc.set ((j : Int) + 1) x).cs = w.set j x := by
    intro x
    have : ((j : Int) + 1).toNat - 1 = j := by omega
    simp only [MV.set, MV.acc, this, hcs]
  have hcnt2 : ∀ x, (M.acc.set ((j : Int) + 1) x).cnt = 2 := by
    intro x; simp only [MV.set, MV.acc, hcnt]; decide
  have hset0 : M.acc.cs = w.set j was := by
    show M.cs = _
    rw [hcs, ← hwas, List.getD_eq_getElem?_getD, List.getElem?_eq_getElem hj]; simp
  have hcnt0 : M.acc.cnt = 2 := by simp only [MV.acc, hcnt]; decide
  have hatM : M.at ((j : Int) + 1) = was := by rw [at_in, hcs, hwas]
  rcases (show kd = 0 ∨ kd = 1 ∨ kd = 2 ∨ kd = 3 by omega) with rfl | rfl | rfl | rfl
  · obtain ⟨H4, e4, m4, f4⟩ := Write_runs (G := knownG ks) m3 ((j : Int) + 1) O.x 99998
    have ew : M.wrote ((j : Int) + 1) O.x = M.acc.set ((j : Int) + 1) O.x := by simp only [MV.wrote, hin, and_self, if_true]
    rw [ew] at m4
    have b4 := b3.fr f4 (nm2 (by omega))
    have L4 := fun i => ld1_pv H.length i H4 b4.1
    obtain ⟨H', e5⟩ := one_cont (a1 := .agg (opCells O W).toArray) (v3 := pv H.length) (v26 := .bool false) (v6 := cv 0) (v37 := .bool false) (v8 := cv was) (v53 := cv 0) (v63 := .bool true) (v72 := undef) (v10 := undef) (v86 := undef) (v87 := undef) (v90 := undef) (v98 := undef) (v60 := undef) (v11 := undef) (v109 := undef) (v12 := undef) (v113 := undef) (v144 := undef) (v3.fr f4 (nm (by omega) _)) m4 hj (hset O.x) (hcnt2 O.x) (by omega)
    refine ⟨H', ?_⟩
    simp -implicitDefEqProofs [-gt_iff_lt, -Int.natCast_eq_zero, -List.getD_eq_getElem?_getD, F5, hbox, hvl, eql_int, h0, pick_bool, gtr_int, hl, fad_pv, L1, hwl, hl2, e2, ext_i, ptr_eql_nil _ ptM, neq_int, e3, L3, hvl3, hcut, add_int, hw1, hat, hcut2, e4, L4, e5]
  · obtain ⟨H4, e4, m4, f4⟩ := Cas_runs (G := knownG ks) m3 ((j : Int) + 1) O.y O.x 99998
    have b4 := b3.fr f4 (nm2 (by omega))
    have L4 := fun i => ld1_pv H.length i H4 b4.1
    by_cases hy : was = O.y
    · have hfit : M.fit ((j : Int) + 1) O.y = true := by simp only [MV.fit, hatM, hy, decide_eq_true_eq, and_true]; exact hin
      have ew : M.cas ((j : Int) + 1) O.y O.x = M.acc.set ((j : Int) + 1) O.x := by simp only [MV.cas, hfit, if_true]
      rw [ew] at m4; rw [hfit] at e4
      obtain ⟨H', e5⟩ := one_cont (a1 := .agg (opCells O W).toArray) (v3 := pv H.length) (v26 := .bool false) (v6 := cv 0) (v37 := .bool false) (v8 := cv was) (v53 := cv 1) (v63 := .bool false) (v72 := .bool true) (v10 := .bool true) (v86 := .bool false) (v87 := .bool true) (v90 := undef) (v98 := undef) (v60 := undef) (v11 := undef) (v109 := undef) (v12 := undef) (v113 := undef) (v144 := undef) (v3.fr f4 (nm (by omega) _)) m4 hj (hset O.x) (hcnt2 O.x) (by omega)
      refine ⟨H', ?_⟩
      rw [hy] at e5 hat
      simp -implicitDefEqProofs [-gt_iff_lt, -Int.natCast_eq_zero, -List.getD_eq_getElem?_getD, F5, hbox, hvl, eql_int, h0, pick_bool, gtr_int, hl, fad_pv, L1, hwl, hl2, e2, ext_i, ptr_eql_nil _ ptM, neq_int, e3, L3, hvl3, hcut, add_int, hw1, hat, hcut2, e4, L4, bool_neq _ _ blT, e5]
    · have hfit : M.fit ((j : Int) + 1) O.y = false := by simp only [MV.fit, hatM, hy, and_false, decide_false]
      have ew : M.cas ((j : Int) + 1) O.y O.x = M.acc := by simp only [MV.cas, hfit, Bool.false_eq_true, if_false, MV.seen, hin, and_self, if_true]
      rw [ew] at m4; rw [hfit] at e4
      obtain ⟨H', e5⟩ := one_cont (a1 := .agg (opCells O W).toArray) (v3 := pv H.length) (v26 := .bool false) (v6 := cv 0) (v37 := .bool false) (v8 := cv was) (v53 := cv 1) (v63 := .bool false) (v72 := .bool true) (v10 := .bool false) (v86 := .bool false) (v87 := .bool false) (v90 := undef) (v98 := undef) (v60 := undef) (v11 := undef) (v109 := undef) (v12 := undef) (v113 := undef) (v144 := undef) (v3.fr f4 (nm (by omega) _)) m4 hj hset0 hcnt0 (by omega)
      refine ⟨H', ?_⟩
      simp -implicitDefEqProofs [-gt_iff_lt, -Int.natCast_eq_zero, -List.getD_eq_getElem?_getD, F5, hbox, hvl, eql_int, h0, pick_bool, gtr_int, hl, fad_pv, L1, hwl, hl2, e2, ext_i, ptr_eql_nil _ ptM, neq_int, e3, L3, hvl3, hcut, add_int, hw1, hat, hcut2, e4, L4, bool_neq _ _ blT, hy, e5]
  · obtain ⟨H4, e4, m4, f4⟩ := Add_runs (G := knownG ks) m3 ((j : Int) + 1) O.x 99998
    have ew : M.added ((j : Int) + 1) O.x = M.acc.set ((j : Int) + 1) (IntKind.i64.wrap (was + O.x)) := by simp only [MV.added, hatM, hin, and_self, if_true]
    rw [ew] at m4; rw [hatM] at e4
    have b4 := b3.fr f4 (nm2 (by omega))
    have L4 := fun i => ld1_pv H.length i H4 b4.1
    obtain ⟨H', e5⟩ := one_cont (a1 := .agg (opCells O W).toArray) (v3 := pv H.length) (v26 := .bool false) (v6 := cv 0) (v37 := .bool false) (v8 := cv was) (v53 := cv 2) (v63 := .bool false) (v72 := .bool false) (v10 := undef) (v86 := undef) (v87 := undef) (v90 := .bool true) (v98 := .bool false) (v60 := undef) (v11 := undef) (v109 := undef) (v12 := undef) (v113 := undef) (v144 := undef) (v3.fr f4 (nm (by omega) _)) m4 hj (hset _) (hcnt2 _) (by omega)
    refine ⟨H', ?_⟩
    simp -implicitDefEqProofs [-gt_iff_lt, -Int.natCast_eq_zero, -List.getD_eq_getElem?_getD, F5, hbox, hvl, eql_int, h0, pick_bool, gtr_int, hl, fad_pv, L1, hwl, hl2, e2, ext_i, ptr_eql_nil _ ptM, neq_int, e3, L3, hvl3, hcut, add_int, hw1, hat, hcut2, e4, L4, e5]
  · obtain ⟨H4, e4, m4, f4⟩ := Cas_runs (G := knownG ks) m3 ((j : Int) + 1) was O.x 99998
    have b4 := b3.fr f4 (nm2 (by omega))
    have L4 := fun i => ld1_pv H.length i H4 b4.1
    have hfit : M.fit ((j : Int) + 1) was = true := by simp only [MV.fit, hatM, decide_eq_true_eq, and_true]; exact hin
    have ew : M.cas ((j : Int) + 1) was O.x = M.acc.set ((j : Int) + 1) O.x := by simp only [MV.cas, hfit, if_true]
    rw [ew] at m4; rw [hfit] at e4
    obtain ⟨H', e5⟩ := one_cont (a1 := .agg (opCells O W).toArray) (v3 := pv H.length) (v26 := .bool false) (v6 := cv 0) (v37 := .bool false) (v8 := cv was) (v53 := cv 3) (v63 := .bool false) (v72 := .bool false) (v10 := undef) (v86 := undef) (v87 := undef) (v90 := .bool false) (v98 := undef) (v60 := .bool false) (v11 := undef) (v109 := undef) (v12 := undef) (v113 := undef) (v144 := undef) (v3.fr f4 (nm (by omega) _)) m4 hj (hset O.x) (hcnt2 O.x) (by omega)
    refine ⟨H', ?_⟩
    simp -implicitDefEqProofs [-gt_iff_lt, -Int.natCast_eq_zero, -List.getD_eq_getElem?_getD, F5, hbox, hvl, eql_int, h0, pick_bool, gtr_int, hl, fad_pv, L1, hwl, hl2, e2, ext_i, ptr_eql_nil _ ptM, neq_int, e3, L3, hvl3, hcut, add_int, hw1, hat, hcut2, e4, L4, not_bool, e5]
end Go.Proofs.Ytpenlcigickkbaa.Fun
namespace Go.Proofs.Ytpenlcigickkbaa.Pure
open Go.RowKit Go.Proofs.YtpenlcigickkbaaA.Am Fun
theorem MemOne_law : Law Try.prog 5 [28, 42] := law_of fun H args hr hi => by
  obtain ⟨v0, _, rfl, h0, v1, _, rfl, ⟨cs, h1, h2⟩, rfl⟩ := hi
  obtain ⟨w, hv, _, _⟩ := h0.ints slI (show Try.prog.underlying 2 = _ from by kernel_rfl) (by kernel_rfl)
  obtain ⟨O, W, rfl, hO, hW⟩ := opIn h1
  have e : v1 = .agg (opCells O W).toArray := by
    split at h2
    · exact h2
    · rename_i hne
      exfalso
      obtain ⟨fs, e, _⟩ := structIs_ex opStruct
      exact hne fs e
  subst e
  exact MemOne_run hv hW hO
end Go.Proofs.Ytpenlcigickkbaa.Pure
