/- MemApart over the abstract machine. -/
import Derived.Test.YtpenlcigickkbaaRef
import Derived.Test.YtpenlcigickkbaaKnown
import Derived.Test.YtpenlcigickkbaaFunMemApart
namespace Go.Proofs.Ytpenlcigickkbaa.Fun
open Go.RowKit Go.Proofs.YtpenlcigickkbaaA.Am
set_option linter.unusedVariables false
set_option linter.unusedSimpArgs false
theorem buildI2 (a b : Int) (H : Heap) : abuildSlice Try.prog 28 2 [(0, cv a), (1, cv b)] H = some (.slice (some ⟨H.length, 0, none⟩) 2 2, H.new ⟨[cv a, cv b], 2, 1, false⟩) := by kernel_rfl
theorem apart_loop {C : Oracle} {o : Own} {s : Value} {v va vx : Value} {p c : Nat} {K : Nat} : ∀ (len : Nat) (H : Heap) (l : List Int), Sli H o (-2) s l → l.length = len → len < K → len ≤ 65536 →
    ∃ H' d11 d53, iter K (F7_b0 C K) (F7_st (v0 := v) (v1 := va) (v2 := vx) (v6 := .bool false) (v19 := .bool false) (v7 := pv p) (v8 := cv 0) (v30 := .bool false) (v9 := pv c) (v47 := .bool false) (v11 := cv 0) (v10 := s)) H =
      some (.exit 0, F7_st (v0 := v) (v1 := va) (v2 := vx) (v6 := .bool false) (v19 := .bool false) (v7 := pv p) (v8 := cv 0) (v30 := .bool false) (v9 := pv c) (v47 := .bool false) (v11 := d11) (v10 := s) (v53 := d53), H') ∧ Fr H o H' o [-2] := by
  intro len H l hs hl hK h65
  obtain ⟨r, hit, hne, h1, d11, d53, h2, h3⟩ := iter_go (step := F7_b0 C K)
    (Q := fun k vs H' => ∃ (i : Nat) (d53 : Value) (l' : List Int), i + k = len ∧ vs = F7_st (v0 := v) (v1 := va) (v2 := vx) (v6 := .bool false) (v19 := .bool false) (v7 := pv p) (v8 := cv 0) (v30 := .bool false) (v9 := pv c) (v47 := .bool false) (v11 := cv i) (v10 := s) (v53 := d53) ∧ Sli H' o (-2) s l' ∧ l'.length = len ∧ Fr H o H' o [-2])
    (R := fun r => r.1 = .exit 0 ∧ ∃ d11 d53, r.2.1 = F7_st (v0 := v) (v1 := va) (v2 := vx) (v6 := .bool false) (v19 := .bool false) (v7 := pv p) (v8 := cv 0) (v30 := .bool false) (v9 := pv c) (v47 := .bool false) (v11 := d11) (v10 := s) (v53 := d53) ∧ Fr H o r.2.2 o [-2])
    (by
      rintro k vs H' ⟨i, d53, l', hi, rfl, hs', hl', hf⟩
      have hsl := hs'.ints.1.len
      cases k with
      | zero =>
        have h1 : ¬ ((i : Int) < l'.length) := by omega
        refine .inr ⟨(.exit 0, F7_st (v0 := v) (v1 := va) (v2 := vx) (v6 := .bool false) (v19 := .bool false) (v7 := pv p) (v8 := cv 0) (v30 := .bool false) (v9 := pv c) (v47 := .bool false) (v11 := cv i) (v10 := s) (v53 := .bool false), H'), ?_, by simp, rfl, _, _, rfl, hf⟩
        simp -implicitDefEqProofs [F7_b0_v, F7_b0v, hsl, lss_int, h1, fin]
      | succ k =>
        have h1 : ((i : Int) < l'.length) := by omega
        obtain ⟨q, b, c', hix, hb, hro, hoq, hcell, ⟨n1, k1, hsq⟩, hst, hs2⟩ := hs'.set (j := i) (by omega) (bits .xor .i64 (l'.getD i 0) 1)
        have hw : IntKind.i64.wrap ((i : Int) + 1) = ((i + 1 : Nat) : Int) := by rw [w64 (by omega)]; omega
        refine .inl ⟨F7_st (v0 := v) (v1 := va) (v2 := vx) (v6 := .bool false) (v19 := .bool false) (v7 := pv p) (v8 := cv 0) (v30 := .bool false) (v9 := pv c) (v47 := .bool false) (v11 := cv ((i + 1 : Nat) : Int)) (v10 := s) (v53 := .bool true), H'.put q c', k, Nat.lt_succ_self k, ?_, i + 1, .bool true, _, by omega, rfl, hs2, by simpa using hl', hf.put (fun hq => by rw [← hoq]; simp [hf.own q hq])⟩
        simp -implicitDefEqProofs [-List.getD_eq_getElem?_getD, -Int.natCast_add, F7_b0_v, F7_b0v, hsl, lss_int, h1, hix, ld1_pv _ _ _ hb, hcell, xor_int, hst, add_int, hw, fin])
    len (F7_st (v0 := v) (v1 := va) (v2 := vx) (v6 := .bool false) (v19 := .bool false) (v7 := pv p) (v8 := cv 0) (v30 := .bool false) (v9 := pv c) (v47 := .bool false) (v11 := cv (0 : Nat)) (v10 := s)) H ⟨0, _, l, by omega, rfl, hs, hl, .refl _ _ _⟩ K hK
  obtain ⟨e, vs, H'⟩ := r
  simp only at h1 h2 h3
  subst h1 h2
  exact ⟨H', d11, d53, hit, h3⟩
theorem made_room {M : MV} {w : List Int} (h : M.room w.length = true) : (M.made w).cs = M.cs ++ w := by unfold MV.made; rw [h]; rfl
theorem MemApart_run {H : Heap} {v : Value} {w : List Int} (hv : IntsR H o0 (-1) v w) (a x : Int) (ha : W64 a) : ∃ n H', run (knownG ks) n 7 [v, cv a, cv x] H = some (.bool true, H') := by
  refine ⟨100001, ?_⟩
  rw [F7_eq]
  have hk := fun H => known_runs 19 (by decide) 99999 H
  by_cases h0 : (w.length : Int) = 0
  · exact ⟨H, by simp -implicitDefEqProofs [F7, F7_j1_v, F7_j1v, hv.1.len, eql_int, h0, pick_bool, hk]⟩
  by_cases hl : (w.length : Int) > 200
  · exact ⟨H, by simp -implicitDefEqProofs [-gt_iff_lt, -Int.natCast_eq_zero, F7, F7_j1_v, F7_j1v, hv.1.len, eql_int, h0, pick_bool, gtr_int, hl, hk]⟩
  obtain ⟨H1, e1, m1, f1⟩ := New_runs (G := knownG ks) (H := H) o0 300 (by omega) 99999
  obtain ⟨H2, o2, e2, m2, f2⟩ := Make_runs (G := knownG ks) m1 (hv.fr f1 (by simp)) (by omega) (by simp [MV.fresh]) (by simp [MV.fresh]) (by omega) 99999
  have hcs := made_cs 300 w (by omega)
  have hc : ((MV.fresh 300).made w).cnt = 1 := made_cnt _ _
  have hm : ((MV.fresh 300).made w).max = 300 := made_max _ _
  generalize (MV.fresh 300).made w = M2 at m2 hcs hc hm
  obtain ⟨H3, o3, e3, c3, f3⟩ := Clone_runs (G := knownG ks) m2 99998
  have m3 := m2.fr f3 (by simp)
  have ec := Count_runs (G := knownG ks) c3 99999
  have es := Size_runs (G := knownG ks) c3 99999
  rw [hc] at ec; rw [hm] at es
  obtain ⟨s, H4, o4, e4, s4, f4⟩ := Cells_runs (G := knownG ks) m3 (-2) 99998
  have m4 := m3.fr f4 (by simp)
  have c4 := c3.fr f4 (by simp)
  obtain ⟨H5, d11, d53, e5, f5⟩ := apart_loop (C := run (knownG ks) 100000) (v := v) (va := cv a) (vx := cv x) (p := H.length) (c := H2.length) (K := 100000) w.length H4 _ s4 (by rw [hcs]) (by omega) (by omega)
  have m5 := m4.fr f5 (by simp)
  have c5 := c4.fr f5 (by simp)
  have hcut := Cut_runs (G := knownG ks) 99999 a w.length ha (by omega) H5
  have hp := m1.lt
  have hp2 : H.length < H2.length := m2.lt
  have hb1 := Int.emod_nonneg a (show (w.length : Int) ≠ 0 by omega)
  have hb2 := Int.emod_lt_of_pos a (show (0 : Int) < w.length by omega)
  generalize hr : a % (w.length : Int) = r at *
  have hw1 : IntKind.i64.wrap (1 + r) = 1 + r := w64 (by omega)
  have hw0 : IntKind.i64.wrap (1 + r - 1) = r := by rw [w64 (by omega)]; omega
  have hwr : IntKind.i64.wrap r = r := w64 (by omega)
  obtain ⟨H6, e6, m6, f6⟩ := Write_runs (G := knownG ks) m5 (1 + r) x 99998
  have hin : 1 ≤ 1 + r ∧ 1 + r ≤ (M2.cs.length : Int) := by rw [hcs]; omega
  have c6 := c5.fr f6 (nm2 (by omega))
  have f7 : Fr H6 o4 (H6.new ⟨[cv 4, cv 5], 2, 1, false⟩) (o4.up H6.length (-3)) [] := (Fr.refl _ _ _).new _ _
  have s7 : IntsR (H6.new ⟨[cv 4, cv 5], 2, 1, false⟩) (o4.up H6.length (-3)) (-3) (.slice (some ⟨H6.length, 0, none⟩) 2 2) [4, 5] := (Sli.new H6 o4 (-3) 2 [4, 5]).ints
  obtain ⟨H8, o8, e8, c8, f8⟩ := Make_runs (G := knownG ks) (c6.fr f7 (by simp)) s7 (by omega) (by omega) (by rw [hcs]; omega) (by simp) 99999
  have m8 := (m6.fr f7 (by simp)).fr f8 (nm2 (by omega))
  have v8 := (((((((hv.fr f1 (by simp)).fr f2 (nm (by omega) _)).fr f3 (by simp)).fr f4 (by simp)).fr f5 (by simp)).fr f6 (nm (by omega) _)).fr f7 (by simp)).fr f8 (nm (by omega) _)
  have hroom : M2.room [4, 5].length = true := by simp [MV.room, hm, hcs]; omega
  have h8 := made_room (M := M2) (w := [4, 5]) hroom
  have a8 := At_runs (G := knownG ks) c8 (1 + r) 99999
  have b8 := At_runs (G := knownG ks) m8 (1 + r) 99999
  have u8 := Used_runs (G := knownG ks) m8 99999
  have t8 := Used_runs (G := knownG ks) c8 99999
  obtain ⟨j, rfl⟩ : ∃ j : Nat, r = j := ⟨r.toNat, by omega⟩
  have hj : j < w.length := by omega
  have ew : M2.wrote (1 + (j : Int)) x = M2.acc.set (1 + (j : Int)) x := by simp only [MV.wrote, hin, and_self, if_true]
  rw [Int.add_comm] at ew
  rw [Int.add_comm (1 : Int)] at a8 b8 u8
  rw [at_in, h8, hcs] at a8
  rw [ew, at_in] at b8
  rw [ew] at u8
  rw [h8, hcs] at t8
  have ed : ((w ++ [4, 5]).getD j 0) = w.getD j 0 := by
    rw [List.getD_eq_getElem?_getD, List.getD_eq_getElem?_getD, List.getElem?_append_left hj]
  have ed2 : ((M2.acc.set ((j : Int) + 1) x).cs.getD j 0) = x := by
    have : ((j : Int) + 1).toNat - 1 = j := by omega
    simp only [MV.set, MV.acc, this, hcs]
    rw [List.getD_eq_getElem?_getD, List.getElem?_set_self hj]; rfl
  have ed3 : ((M2.acc.set ((j : Int) + 1) x).cs.length) = w.length := by simp [MV.set, MV.acc, hcs]
  rw [ed] at a8; rw [ed2] at b8; rw [ed3] at u8
  have ht : ((w ++ [4, 5]).length : Int) = w.length + 2 := by simp
  rw [ht] at t8
  have hw2 : IntKind.i64.wrap ((w.length : Int) + 2) = w.length + 2 := w64 (by omega)
  obtain ⟨i, off, b, hix, hbk, hcell⟩ := v8.1.idx (j := j) hj
  have hlen := hv.1.len
  refine ⟨H8, ?_⟩
  rw [Int.add_comm] at hw1 hw0 e6
  simp -implicitDefEqProofs [-gt_iff_lt, -Int.natCast_eq_zero, -List.getD_eq_getElem?_getD, F7, F7_j1_v, F7_j1v, hlen, eql_int, h0, pick_bool, gtr_int, hl, hk, e1, e2, ext_i, ptr_eql_nil _ ptM, neq_int, e3, ec, es, e4, e5, hcut, add_int, hw1, sub_int, hwr, e6, buildI2, e8, a8, b8, u8, t8, hix, ld1_pv _ _ _ hbk, hcell, hw2, Int.add_comm]
end Go.Proofs.Ytpenlcigickkbaa.Fun
namespace Go.Proofs.Ytpenlcigickkbaa.Pure
open Go.RowKit Go.Proofs.YtpenlcigickkbaaA.Am Fun
theorem MemApart_law : Law Try.prog 7 [28, 3, 2] := law_of fun H args hr hi => by
  obtain ⟨v0, _, rfl, h0, v1, _, rfl, h1, v2, _, rfl, h2, rfl⟩ := hi
  obtain ⟨w, hv, _, _⟩ := h0.ints slI (show Try.prog.underlying 2 = _ from by kernel_rfl) (by kernel_rfl)
  obtain ⟨a, rfl, ha⟩ := h1.int (show Try.prog.underlying 3 = _ from by kernel_rfl)
  obtain ⟨x, rfl, _⟩ := h2.int (show Try.prog.underlying 2 = _ from by kernel_rfl)
  exact MemApart_run hv a x ha
end Go.Proofs.Ytpenlcigickkbaa.Pure
