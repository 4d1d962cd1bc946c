/- MemFresh over the abstract machine. -/
import Derived.Test.YtpenlcigickkbaaRef
import Derived.Test.YtpenlcigickkbaaKnown
import Derived.Test.YtpenlcigickkbaaFunMemFresh
namespace Go.Proofs.Ytpenlcigickkbaa.Fun
open Go.RowKit Go.Proofs.YtpenlcigickkbaaA.Am
set_option linter.unusedVariables false
set_option linter.unusedSimpArgs false
theorem mk_runs (t : TypeId) (o : Own) (r : Int) (c : Int) (h : 0 ≤ c ∧ c ≤ 65536) (H : Heap) : ∃ s H', mkS t 1 8 [cv 0] (cv c) (cv c) H = some (s, H') ∧ Sli H' (o.up H.length r) r s (List.replicate c.toNat 0) ∧ Fr H o H' (o.up H.length r) [] := by
  obtain ⟨k, rfl⟩ : ∃ k : Nat, c = k := ⟨c.toNat, by omega⟩
  have e : zeros [cv 0] k = (List.replicate k (0 : Int)).map cv := by
    unfold zeros
    clear h
    induction k with
    | zero => rfl
    | succ k ih => simp only [List.replicate_succ, List.flatten_cons, ih, List.map_cons, List.singleton_append]
  refine ⟨_, _, ?_, Sli.new H o r t (List.replicate k 0), (Fr.refl _ _ _).new _ _⟩
  simp only [mkS]
  rw [if_pos (by refine ⟨?_, ?_, ?_, ?_, ?_⟩ <;> omega)]
  simp only [Int.toNat_natCast, e, List.length_replicate]

theorem fresh_fill {C : Oracle} {o : Own} {s : Value} {v0 v1 v4 v5 v6 v7 v28 v36 v13 v8 v12 v93 v94 v14 v105 v117 : Value} {K : Nat} (iv : Int) : ∀ (len : Nat) (H : Heap) (l : List Int) (v48 : Value), Sli H o (-2) s l → l.length = len → len < K → len ≤ 65536 →
    ∃ H' l' d11 d48, iter K (F3_b2 C K) [v0, v1, v4, v5, v6, v7, v28, cv iv, v36, cv 0, s, v48, v13, v8, v12, v93, v94, v14, v105, v117] H =
      some (.exit 2, [v0, v1, v4, v5, v6, v7, v28, cv iv, v36, d11, s, d48, v13, v8, v12, v93, v94, v14, v105, v117], H') ∧ Sli H' o (-2) s l' ∧ l'.length = len ∧ Fr H o H' o [-2] := by
  intro len H l v48 hs hl hK h65
  obtain ⟨r, hit, hne, h1, l', d11, d48, h2, h3⟩ := iter_go (step := F3_b2 C K)
    (Q := fun k vs H' => ∃ (i : Nat) (d48 : Value) (l' : List Int), i + k = len ∧ vs = [v0, v1, v4, v5, v6, v7, v28, cv iv, v36, cv i, s, d48, v13, v8, v12, v93, v94, v14, v105, v117] ∧ Sli H' o (-2) s l' ∧ l'.length = len ∧ Fr H o H' o [-2])
    (R := fun r => r.1 = .exit 2 ∧ ∃ l' d11 d48, r.2.1 = [v0, v1, v4, v5, v6, v7, v28, cv iv, v36, d11, s, d48, v13, v8, v12, v93, v94, v14, v105, v117] ∧ Sli r.2.2 o (-2) s l' ∧ l'.length = len ∧ Fr H o r.2.2 o [-2])
    (by
      rintro k vs H' ⟨i, d48, l', hi, rfl, hs', hl', hf⟩
      have hsl := hs'.ints.1.len
      cases k with
      | zero =>
        have h1 : ¬ ((i : Int) < l'.length) := by omega
        refine .inr ⟨(.exit 2, [v0, v1, v4, v5, v6, v7, v28, cv iv, v36, cv i, s, .bool false, v13, v8, v12, v93, v94, v14, v105, v117], H'), ?_, by simp, rfl, l', _, _, rfl, hs', hl', hf⟩
        simp -implicitDefEqProofs [F3_b2_v, F3_b2v, hsl, lss_int, h1, fin]
      | succ k =>
        have h1 : ((i : Int) < l'.length) := by omega
        obtain ⟨q, b, c', hix, hb, hro, hoq, hcell, ⟨n1, k1, hsq⟩, hst, hs2⟩ := hs'.set (j := i) (by omega) (IntKind.i64.wrap (IntKind.i64.wrap (iv * 10) + i))
        have hw : IntKind.i64.wrap ((i : Int) + 1) = ((i + 1 : Nat) : Int) := by rw [w64 (by omega)]; omega
        refine .inl ⟨[v0, v1, v4, v5, v6, v7, v28, cv iv, v36, cv ((i + 1 : Nat) : Int), s, .bool true, v13, v8, v12, v93, v94, v14, v105, v117], H'.put q c', k, Nat.lt_succ_self k, ?_, i + 1, .bool true, _, by omega, rfl, hs2, by simpa using hl', hf.put (fun hq => by rw [← hoq]; simp [hf.own q hq])⟩
        simp -implicitDefEqProofs [-List.getD_eq_getElem?_getD, -Int.natCast_add, F3_b2_v, F3_b2v, hsl, lss_int, h1, hix, mul_int, hst, add_int, hw, fin])
    len [v0, v1, v4, v5, v6, v7, v28, cv iv, v36, cv (0 : Nat), s, v48, v13, v8, v12, v93, v94, v14, v105, v117] H ⟨0, _, l, by omega, rfl, hs, hl, .refl _ _ _⟩ K hK
  obtain ⟨e, vs, H'⟩ := r
  simp only at h1 h2 h3
  subst h1 h2
  exact ⟨H', l', d11, d48, hit, h3⟩

/-- What is read of what was made. -/
theorem fresh_read {G : Oracle} {o : Own} {s : Value} {v0 v1 v4 v5 v7 v28 v9 v36 v11 v48 v8 v93 v94 : Value} {p : Nat} {ok : Bool} {used : Nat} {l : List Int} : ∀ (len : Nat) (H : Heap) (M : MV) (v105 v117 : Value), MemR H o p M → Sli H o (-2) s l → l.length = len → len ≤ 65536 → M.odd = 0 →
    (ok = true → ∃ A, M.cs = A ++ l ∧ A.length = used) →
    ∃ H' M' d14 d105 d117, iter 100000 (F3_b5 (run G 100000) 100000) [v0, v1, v4, v5, pv p, v7, v28, v9, v36, v11, s, v48, .bool ok, v8, cv (if ok then used + 1 else 0), v93, v94, cv 0, v105, v117] H =
      some (.exit 4, [v0, v1, v4, v5, pv p, v7, v28, v9, v36, v11, s, v48, .bool ok, v8, cv (if ok then used + 1 else 0), v93, v94, d14, d105, d117], H') ∧ MemR H' o p M' ∧ M'.cs = M.cs ∧ M'.max = M.max ∧ M'.odd = 0 ∧ Fr H o H' o [p] := by
  intro len H M v105 v117 hm hs hl h65 ho hok
  obtain ⟨r, hit, hne, h1, M', d14, d105, d117, h2, h3⟩ := iter_go (step := F3_b5 (run G 100000) 100000)
    (Q := fun k vs H' => ∃ (i : Nat) (d105 d117 : Value) (M' : MV), i + k = len ∧ vs = [v0, v1, v4, v5, pv p, v7, v28, v9, v36, v11, s, v48, .bool ok, v8, cv (if ok then used + 1 else 0), v93, v94, cv i, d105, d117] ∧ MemR H' o p M' ∧ M'.cs = M.cs ∧ M'.max = M.max ∧ M'.odd = 0 ∧ Fr H o H' o [p])
    (R := fun r => r.1 = .exit 4 ∧ ∃ M' d14 d105 d117, r.2.1 = [v0, v1, v4, v5, pv p, v7, v28, v9, v36, v11, s, v48, .bool ok, v8, cv (if ok then used + 1 else 0), v93, v94, d14, d105, d117] ∧ MemR r.2.2 o p M' ∧ M'.cs = M.cs ∧ M'.max = M.max ∧ M'.odd = 0 ∧ Fr H o r.2.2 o [p])
    (by
      rintro k vs H' ⟨i, d105, d117, M', hi, rfl, hm', hcs, hmx, ho', hf⟩
      have hs' := hs.fr hf (nm (by omega) _)
      have hsl := hs'.ints.1.len
      cases ok with
      | false =>
        refine .inr ⟨(.exit 4, [v0, v1, v4, v5, pv p, v7, v28, v9, v36, v11, s, v48, .bool false, v8, cv (if false = true then used + 1 else 0), v93, v94, cv i, .bool false, d117], H'), ?_, by simp, rfl, M', _, _, _, rfl, hm', hcs, hmx, ho', hf⟩
        simp -implicitDefEqProofs [F3_b5_v, F3_b5v, hsl, lss_int, pick_bool, fin]
      | true =>
        cases k with
        | zero =>
          have h1 : ¬ ((i : Int) < l.length) := by omega
          refine .inr ⟨(.exit 4, [v0, v1, v4, v5, pv p, v7, v28, v9, v36, v11, s, v48, .bool true, v8, cv (if true = true then used + 1 else 0), v93, v94, cv i, .bool false, d117], H'), ?_, by simp, rfl, M', _, _, _, rfl, hm', hcs, hmx, ho', hf⟩
          simp -implicitDefEqProofs [F3_b5_v, F3_b5v, hsl, lss_int, h1, pick_bool, fin]
        | succ k =>
          have h1 : ((i : Int) < l.length) := by omega
          obtain ⟨A, hA, hAl⟩ := hok rfl
          have hfit := hm'.fits
          rw [hcs, hA, List.length_append] at hfit
          have hw1 : IntKind.i64.wrap ((used : Int) + 1 + i) = ((used + i : Nat) : Int) + 1 := by rw [w64 (by omega)]; omega
          obtain ⟨H2, e2, m2, f2⟩ := Read_runs (G := G) hm' (((used + i : Nat) : Int) + 1) 99998
          have hin : 1 ≤ ((used + i : Nat) : Int) + 1 ∧ ((used + i : Nat) : Int) + 1 ≤ (M'.cs.length : Int) := by rw [hcs, hA, List.length_append]; omega
          have hv : M'.at (((used + i : Nat) : Int) + 1) = l.getD i 0 := by
            rw [at_in, hcs, hA, List.getD_eq_getElem?_getD, List.getElem?_append_right (by omega), List.getD_eq_getElem?_getD]
            congr 2; omega
          rw [hv] at e2
          have hseen : M'.seen (((used + i : Nat) : Int) + 1) = M'.acc := by simp only [MV.seen, hin, and_self, if_true]
          rw [hseen] at m2
          obtain ⟨q, off, b, hix, hb, hc⟩ := (hs'.ints).1.idx (j := i) (by omega)
          obtain ⟨q2, off2, b2, hix2, hb2, hc2⟩ := (hs'.fr f2 (nm (by omega) _)).ints.1.idx (j := i) (by omega)
          have heq := (hix H').symm.trans (hix2 H')
          simp only [Option.some.injEq, Prod.mk.injEq, Value.pointer.injEq, Addr.mk.injEq, and_true] at heq
          obtain ⟨rfl, rfl⟩ := heq
          have hw : IntKind.i64.wrap ((i : Int) + 1) = ((i + 1 : Nat) : Int) := by rw [w64 (by omega)]; omega
          refine .inl ⟨[v0, v1, v4, v5, pv p, v7, v28, v9, v36, v11, s, v48, .bool true, v8, cv (if true = true then used + 1 else 0), v93, v94, cv ((i + 1 : Nat) : Int), .bool true, .bool false], H2, k, Nat.lt_succ_self k, ?_, i + 1, _, _, M'.acc, by omega, rfl, m2, hcs, hmx, ho', hf.tr f2⟩
          simp -implicitDefEqProofs [-List.getD_eq_getElem?_getD, -Int.natCast_add, F3_b5_v, F3_b5v, hsl, lss_int, h1, pick_bool, add_int, hw1, e2, hix, ld1_pv _ _ _ hb, ld1_pv _ _ _ hb2, hc, hc2, neq_int, hw, fin])
    len [v0, v1, v4, v5, pv p, v7, v28, v9, v36, v11, s, v48, .bool ok, v8, cv (if ok then used + 1 else 0), v93, v94, cv (0 : Nat), v105, v117] H ⟨0, _, _, M, by omega, rfl, hm, rfl, rfl, ho, .refl _ _ _⟩ 100000 (by omega)
  obtain ⟨e, vs, H'⟩ := r
  simp only at h1 h2 h3
  subst h1 h2
  exact ⟨H', M', d14, d105, d117, hit, h3⟩
theorem blT : Try.prog.underlying 4 = some .bool := by kernel_rfl
/-- One round. -/
theorem fresh_round {G : Oracle} {o : Own} {H : Heap} {v0 v : Value} {l : List Int} {p : Nat} {N : Int} {M : MV} {d36 d11 d10 d48 d13 d12 d93 d94 d14 d105 d117 : Value} (hv : IntsR H o (-1) v l) (hl : ∀ x ∈ l, W64 x) (hm : MemR H o p M) (hN : M.max = N) (hN2 : N ≤ 300) (ho : M.odd = 0) (hle : (M.cs.length : Int) ≤ N) (i : Nat) (hi : i < l.length) (hi2 : i < 100) :
    ∃ H' o' M' e11 e10 e48 e13 e12 e93 e94 e14 e105 e117 e36, F3_b0 (run G 100000) 100000 [v0, v, .bool false, cv N, pv p, cv 0, .bool false, cv i, d36, d11, d10, d48, d13, cv ((M.cs.length : Int) + 1), d12, d93, d94, d14, d105, d117] H =
      some (.normal, [v0, v, .bool false, cv N, pv p, cv 0, .bool false, cv ((i + 1 : Nat) : Int), e36, e11, e10, e48, e13, cv ((M'.cs.length : Int) + 1), e12, e93, e94, e14, e105, e117], H') ∧ MemR H' o' p M' ∧ M'.max = N ∧ M'.odd = 0 ∧ (M'.cs.length : Int) ≤ N ∧ Fr H o H' o' [p, -2] := by
  have hvl := hv.1.len
  obtain ⟨q, off, b, hix, hb, hc⟩ := hv.1.idx hi
  have h1 : ((i : Int) < l.length) := by omega
  have h2 : ((i : Int) < 100) := by omega
  have hx : W64 (l.getD i 0) := by rw [List.getD_eq_getElem?_getD, List.getElem?_eq_getElem hi]; exact hl _ (List.getElem_mem hi)
  have hcut := Cut_runs (G := G) 99999 (l.getD i 0) 9 hx (by omega) H
  have hb1 := Int.emod_nonneg (l.getD i 0) (show (9 : Int) ≠ 0 by omega)
  have hb2 := Int.emod_lt_of_pos (l.getD i 0) (show (0 : Int) < 9 by omega)
  generalize l.getD i 0 % 9 = c at hcut hb1 hb2
  obtain ⟨s, H1, e1, s1, f1⟩ := mk_runs 2 o (-2) c (by omega) H
  obtain ⟨k, rfl⟩ : ∃ k : Nat, c = k := ⟨c.toNat, by omega⟩
  rw [Int.toNat_natCast] at s1
  have m1 := hm.fr f1 (by simp)
  obtain ⟨H2, l', e11, e48, e2, s2, hl2, f2⟩ := fresh_fill (C := run G 100000) (v0 := v0) (v1 := v) (v4 := .bool false) (v5 := cv N) (v6 := pv p) (v7 := cv 0) (v28 := .bool false) (v36 := .bool true) (v13 := d13) (v8 := cv ((M.cs.length : Int) + 1)) (v12 := d12) (v93 := d93) (v94 := d94) (v14 := d14) (v105 := d105) (v117 := d117) (K := 100000) (i : Int) k H1 _ d48 s1 (by simp) (by omega) (by omega)
  have m2 := m1.fr f2 (by simp)
  obtain ⟨H3, o3, e3, m3, f3⟩ := Make_runs (G := G) m2 s2.ints (by omega) (by omega) (by omega) (by omega) 99999
  have s3 := s2.fr f3 (nm (by omega) _)
  have hsl := s2.ints.1.len
  have hsl3 := s3.ints.1.len
  have hw : IntKind.i64.wrap ((i : Int) + 1) = ((i + 1 : Nat) : Int) := by rw [w64 (by omega)]; omega
  rw [hl2] at e3 hsl hsl3
  have fA : Fr H o H3 o3 [p, -2] := ((f1.wk (by simp)).tr (f2.wk (by simp))).tr (f3.wk (by simp))
  have hwn : IntKind.i64.wrap ((M.cs.length : Int) + 1 + k) = (M.cs.length : Int) + 1 + k := w64 (by omega)
  have hwm : IntKind.i64.wrap ((M.cs.length : Int) + 1 + k - 1) = (M.cs.length : Int) + k := by rw [w64 (by omega)]; omega
  by_cases hroom : M.room k = true
  · have hr2 := hroom
    simp only [MV.room, decide_eq_true_eq] at hr2
    have hmade : (M.made l').cs = M.cs ++ l' := by unfold MV.made; rw [hl2, hroom]; rfl
    obtain ⟨H4, M4, e14, e105, e117, e4, m4, c4, x4, o4, f4⟩ := fresh_read (G := G) (v0 := v0) (v1 := v) (v4 := .bool false) (v5 := cv N) (v7 := cv 0) (v28 := .bool false) (v9 := cv i) (v36 := .bool true) (v11 := e11) (v48 := e48) (v8 := cv ((M.cs.length : Int) + 1 + k)) (v93 := .bool false) (v94 := .bool true) (ok := true) (used := M.cs.length) k H3 _ d105 d117 m3 s3 hl2 (by omega) (by rw [made_odd]; exact ho) (fun _ => ⟨M.cs, hmade, rfl⟩)
    have hlen : (M4.cs.length : Int) = M.cs.length + k := by rw [c4, hmade, List.length_append, hl2]; omega
    have hnext : (M4.cs.length : Int) + 1 = M.cs.length + 1 + k := by omega
    refine ⟨H4, o3, M4, e11, s, e48, .bool true, cv ((M.cs.length : Int) + 1), .bool false, .bool true, e14, e105, e117, .bool true, ?_, m4, by rw [x4, made_max]; exact hN, o4, by omega, fA.tr (f4.wk (by simp))⟩
    have g1 : (k : Int) > 0 := by omega
    have g2 : ((M.cs.length : Int) + k ≤ N) := by omega
    rw [hroom] at e3
    simp only [if_true] at e3 e4
    rw [hnext]
    simp -implicitDefEqProofs [-gt_iff_lt, -Int.natCast_add, -List.getD_eq_getElem?_getD, -Int.natCast_pos, F3_b0_v, F3_b0v, hvl, lss_int, h1, h2, pick_bool, hix, ld1_pv _ _ _ hb, hc, hcut, e1, e2, F3_j3_v, F3_j3v, e3, ext_i, hsl, hsl3, gtr_int, g1, add_int, hwn, sub_int, hwm, leq_int, g2, bool_neq _ _ blT, neq_int, not_bool, F3_j4_v, F3_j4v, e4, F3_j1_v, F3_j1v, hw, fin]
  · have hr2 := hroom
    simp only [MV.room, decide_eq_true_eq] at hr2
    have hroom' : M.room k = false := by simpa using hroom
    have hmade : (M.made l').cs = M.cs := by unfold MV.made; rw [hl2, hroom']; rfl
    obtain ⟨H4, M4, e14, e105, e117, e4, m4, c4, x4, o4, f4⟩ := fresh_read (G := G) (v0 := v0) (v1 := v) (v4 := .bool false) (v5 := cv N) (v7 := cv 0) (v28 := .bool false) (v9 := cv i) (v36 := .bool true) (v11 := e11) (v48 := e48) (v8 := cv ((M.cs.length : Int) + 1)) (v93 := .bool false) (v94 := .bool false) (ok := false) (used := M.cs.length) k H3 _ d105 d117 m3 s3 hl2 (by omega) (by rw [made_odd]; exact ho) (fun h => by cases h)
    refine ⟨H4, o3, M4, e11, s, e48, .bool false, cv 0, .bool false, .bool false, e14, e105, e117, .bool true, ?_, m4, by rw [x4, made_max]; exact hN, o4, by rw [c4, hmade]; exact hle, fA.tr (f4.wk (by simp))⟩
    rw [hroom'] at e3
    simp only [Bool.false_eq_true, if_false] at e3 e4
    rw [c4, hmade]
    by_cases g1 : (k : Int) > 0
    · have g2 : ¬ ((M.cs.length : Int) + k ≤ N) := by omega
      simp -implicitDefEqProofs [-gt_iff_lt, -Int.natCast_add, -List.getD_eq_getElem?_getD, -Int.natCast_pos, F3_b0_v, F3_b0v, hvl, lss_int, h1, h2, pick_bool, hix, ld1_pv _ _ _ hb, hc, hcut, e1, e2, F3_j3_v, F3_j3v, e3, ext_i, hsl, hsl3, gtr_int, g1, add_int, hwn, sub_int, hwm, leq_int, g2, bool_neq _ _ blT, neq_int, not_bool, F3_j4_v, F3_j4v, e4, F3_j1_v, F3_j1v, hw, fin]
    · simp -implicitDefEqProofs [-gt_iff_lt, -Int.natCast_add, -List.getD_eq_getElem?_getD, -Int.natCast_pos, F3_b0_v, F3_b0v, hvl, lss_int, h1, h2, pick_bool, hix, ld1_pv _ _ _ hb, hc, hcut, e1, e2, F3_j3_v, F3_j3v, e3, ext_i, hsl, hsl3, gtr_int, g1, add_int, hwn, sub_int, hwm, leq_int, bool_neq _ _ blT, neq_int, not_bool, F3_j4_v, F3_j4v, e4, F3_j1_v, F3_j1v, hw, fin]
theorem MemFresh_run {H : Heap} {v : Value} {l : List Int} (hv : IntsR H o0 (-1) v l) (hl : ∀ x ∈ l, W64 x) (a : Int) (ha : W64 a) : ∃ n H', run (knownG ks) n 3 [cv a, v] H = some (.bool true, H') := by
  refine ⟨100001, ?_⟩
  rw [F3_eq]
  have hk := fun H => known_runs 19 (by decide) 99999 H
  have hcut := Cut_runs (G := knownG ks) 99999 a 300 ha (by omega) H
  have hb1 := Int.emod_nonneg a (show (300 : Int) ≠ 0 by omega)
  have hb2 := Int.emod_lt_of_pos a (show (0 : Int) < 300 by omega)
  generalize a % 300 = r at hcut hb1 hb2
  have hw1 : IntKind.i64.wrap (1 + r) = 1 + r := w64 (by omega)
  obtain ⟨H1, e1, m1, f1⟩ := New_runs (G := knownG ks) (H := H) o0 (1 + r) (by omega) 99999
  have v1 := hv.fr f1 (by simp)
  obtain ⟨r', hit, hne, hr1, M, o2, d36, d11, d10, d48, d13, d12, d93, d94, d14, d105, d117, i', hr2, m2, hodd, f2⟩ := iter_go (step := F3_b0 (run (knownG ks) 100000) 100000)
    (Q := fun k vs H' => ∃ (i : Nat) (M : MV) (o' : Own) (d36 d11 d10 d48 d13 d12 d93 d94 d14 d105 d117 : Value), i + k = 100 ∧ vs = [cv a, v, .bool false, cv (1 + r), pv H.length, cv 0, .bool false, cv i, d36, d11, d10, d48, d13, cv ((M.cs.length : Int) + 1), d12, d93, d94, d14, d105, d117] ∧ MemR H' o' H.length M ∧ M.max = 1 + r ∧ M.odd = 0 ∧ (M.cs.length : Int) ≤ 1 + r ∧ Fr H1 (o0.up H.length H.length) H' o' [H.length, -2])
    (R := fun x => x.1 = .exit 0 ∧ ∃ (M : MV) (o' : Own) (d36 d11 d10 d48 d13 d12 d93 d94 d14 d105 d117 i' : Value), x.2.1 = [cv a, v, .bool false, cv (1 + r), pv H.length, cv 0, .bool false, i', d36, d11, d10, d48, d13, cv ((M.cs.length : Int) + 1), d12, d93, d94, d14, d105, d117] ∧ MemR x.2.2 o' H.length M ∧ M.odd = 0 ∧ Fr H1 (o0.up H.length H.length) x.2.2 o' [H.length, -2])
    (by
      rintro k vs H' ⟨i, M, o', d36, d11, d10, d48, d13, d12, d93, d94, d14, d105, d117, hi, rfl, hm, hmx, hod, hle, hf⟩
      have hv' := v1.fr hf (by simp)
      have hvl := hv'.1.len
      by_cases hil : i < l.length
      · by_cases hi2 : i < 100
        · obtain ⟨H2, o2, M2, e11, e10, e48, e13, e12, e93, e94, e14, e105, e117, e36, hst, hm2, hx2, ho2, hl2, hf2⟩ := fresh_round (G := knownG ks) (v0 := cv a) (d36 := d36) (d11 := d11) (d10 := d10) (d48 := d48) (d13 := d13) (d12 := d12) (d93 := d93) (d94 := d94) (d14 := d14) (d105 := d105) (d117 := d117) hv' hl hm hmx (by omega) hod hle i hil hi2
          exact .inl ⟨_, _, k - 1, by omega, hst, i + 1, M2, o2, _, _, _, _, _, _, _, _, _, _, _, by omega, rfl, hm2, hx2, ho2, hl2, hf.tr hf2⟩
        · have g1 : (i : Int) < l.length := by omega
          have g2 : ¬ (i : Int) < 100 := by omega
          refine .inr ⟨(.exit 0, [cv a, v, .bool false, cv (1 + r), pv H.length, cv 0, .bool false, cv i, .bool false, d11, d10, d48, d13, cv ((M.cs.length : Int) + 1), d12, d93, d94, d14, d105, d117], H'), ?_, by simp, rfl, M, o', _, _, _, _, _, _, _, _, _, _, _, _, rfl, hm, hod, hf⟩
          simp -implicitDefEqProofs [F3_b0_v, F3_b0v, hvl, lss_int, g1, g2, pick_bool, fin]
      · have g1 : ¬ (i : Int) < l.length := by omega
        refine .inr ⟨(.exit 0, [cv a, v, .bool false, cv (1 + r), pv H.length, cv 0, .bool false, cv i, .bool false, d11, d10, d48, d13, cv ((M.cs.length : Int) + 1), d12, d93, d94, d14, d105, d117], H'), ?_, by simp, rfl, M, o', _, _, _, _, _, _, _, _, _, _, _, _, rfl, hm, hod, hf⟩
        simp -implicitDefEqProofs [F3_b0_v, F3_b0v, hvl, lss_int, g1, pick_bool, fin])
    100 [cv a, v, .bool false, cv (1 + r), pv H.length, cv 0, .bool false, cv (0 : Nat), undef, undef, undef, undef, undef, cv (((MV.fresh (1 + r)).cs.length : Int) + 1), undef, undef, undef, undef, undef, undef] H1
    ⟨0, MV.fresh (1 + r), _, _, _, _, _, _, _, _, _, _, _, _, rfl, rfl, m1, rfl, rfl, (by simp [MV.fresh]; omega), .refl _ _ _⟩ 100000 (by omega)
  obtain ⟨x1, x2, H2⟩ := r'
  simp only at hr1 hr2 m2 f2
  subst hr1 hr2
  have u2 := Used_runs (G := knownG ks) m2 99999
  have q2 := Odd_runs (G := knownG ks) m2 99999
  rw [hodd] at q2
  obtain ⟨s3, H3, o3, e3, s3r, f3⟩ := Cells_runs (G := knownG ks) m2 (-3) 99998
  have hsl := s3r.ints.1.len
  have hfit := m2.fits
  have hw2 : IntKind.i64.wrap ((M.cs.length : Int) + 1 - 1) = M.cs.length := by rw [w64 (by omega)]; omega
  have hw3 : IntKind.i64.wrap (M.cs.length : Int) = M.cs.length := w64 (by omega)
  have hit' : iter 100000 (F3_b0 (run (knownG ks) 100000) 100000) [cv a, v, .bool false, cv (1 + r), pv H.length, cv 0, .bool false, cv 0, undef, undef, undef, undef, undef, cv 1, undef, undef, undef, undef, undef, undef] H1 = _ := hit
  refine ⟨H3, ?_⟩
  simp -implicitDefEqProofs [F3, hcut, add_int, hw1, e1, ext_i, ptr_eql_nil _ ptM, neq_int, pick_bool, hit', F3_j6_v, F3_j6v, hk, u2, q2, e3, hsl, sub_int, hw2, hw3, eql_int]
end Go.Proofs.Ytpenlcigickkbaa.Fun
namespace Go.Proofs.Ytpenlcigickkbaa.Pure
open Go.RowKit Go.Proofs.YtpenlcigickkbaaA.Am Fun
theorem MemFresh_law : Law Try.prog 3 [3, 22] := law_of fun H args hr hi => by
  obtain ⟨v0, _, rfl, h0, v1, _, rfl, h1, rfl⟩ := hi
  obtain ⟨a, rfl, ha⟩ := h0.int (show Try.prog.underlying 3 = _ from by kernel_rfl)
  obtain ⟨w, hv, hw, _⟩ := h1.ints (show Try.prog.underlying 22 = _ from by kernel_rfl) (show Try.prog.underlying 3 = _ from by kernel_rfl) (by kernel_rfl)
  exact MemFresh_run hv hw a ha
end Go.Proofs.Ytpenlcigickkbaa.Pure
