/- NodePlaces over the abstract machine. -/
import Derived.Test.YtpenlcigickkbaaNode
import Derived.Test.YtpenlcigickkbaaKnown
import Derived.Test.YtpenlcigickkbaaFunNodePlaces
namespace Go.Proofs.Ytpenlcigickkbaa.Fun
open Go.RowKit Go.Proofs.YtpenlcigickkbaaA.Am
set_option linter.unusedVariables false
set_option linter.unusedSimpArgs false
theorem mk_runs (t : TypeId) (o : Own) (r : Int) (c : Int) (h : 0 ≤ c ∧ c ≤ 65536) (H : Heap) : ∃ s H', mkS t 1 8 [cv 0] (cv c) (cv c) H = some (s, H') ∧ Sli H' (o.up H.length r) r s (List.replicate c.toNat 0) ∧ Fr H o H' (o.up H.length r) [] := by
  obtain ⟨k, rfl⟩ : ∃ k : Nat, c = k := ⟨c.toNat, by omega⟩
  refine ⟨_, _, ?_, Sli.new H o r t (List.replicate k 0), (Fr.refl _ _ _).new _ _⟩
  simp only [mkS]
  rw [if_pos (by refine ⟨?_, ?_, ?_, ?_, ?_⟩ <;> omega)]
  simp only [Int.toNat_natCast, zeros_cv, List.length_replicate]
def x5 (x : Int) : Int := bits .xor .i64 x 5
theorem places_fill {C : Oracle} {o : Own} {H : Heap} {v0 v v2 v3 v8 v19 v9 v10 v30 v14 v13 v15 v102 v16 v105 v135 x : Value} {q : List Int} {first : Int} {K : Nat} {oq : Int} (hv : IntsR H o oq v q) (hoq : oq ≠ -2) (hx : Sli H o (-2) x [first]) (v36 : Value) (hK : q.length < K) (h65 : q.length ≤ 65536) :
    ∃ H' o' x' d12 d36, iter K (F9_b0 C K) [v0, v, v2, v3, v8, v19, v9, v10, v30, cv 0, v36, x, v14, v13, v15, v102, v16, v105, v135] H =
      some (.exit 0, [v0, v, v2, v3, v8, v19, v9, v10, v30, d12, d36, x', v14, v13, v15, v102, v16, v105, v135], H') ∧ Sli H' o' (-2) x' (first :: q.map x5) ∧ Fr H o H' o' [-2] := by
  obtain ⟨r, hit, hne, h1, o', x', d12, d36, h2, h3⟩ := iter_go (step := F9_b0 C K)
    (Q := fun k vs H' => ∃ (i : Nat) (o' : Own) (x' d36 : Value), i + k = q.length ∧ vs = [v0, v, v2, v3, v8, v19, v9, v10, v30, cv i, d36, x', v14, v13, v15, v102, v16, v105, v135] ∧ Sli H' o' (-2) x' (first :: (q.take i).map x5) ∧ Fr H o H' o' [-2])
    (R := fun r => r.1 = .exit 0 ∧ ∃ (o' : Own) (x' d12 d36 : Value), r.2.1 = [v0, v, v2, v3, v8, v19, v9, v10, v30, d12, d36, x', v14, v13, v15, v102, v16, v105, v135] ∧ Sli r.2.2 o' (-2) x' (first :: q.map x5) ∧ Fr H o r.2.2 o' [-2])
    (by
      rintro k vs H' ⟨i, o', x', d36, hi, rfl, hs', hf⟩
      have hv' := hv.fr hf (by simpa using hoq)
      have hvl := hv'.1.len
      cases k with
      | zero =>
        have h1 : ¬ ((i : Int) < q.length) := by omega
        refine .inr ⟨(.exit 0, [v0, v, v2, v3, v8, v19, v9, v10, v30, cv i, .bool false, x', v14, v13, v15, v102, v16, v105, v135], H'), ?_, by simp, rfl, o', _, _, _, rfl, ?_, hf⟩
        · simp -implicitDefEqProofs [F9_b0_v, F9_b0v, hvl, lss_int, h1, fin]
        · rw [List.take_of_length_le (by omega)] at hs'; exact hs'
      | succ k =>
        have h1 : ((i : Int) < q.length) := by omega
        have hiq : i < q.length := by omega
        obtain ⟨b, off, B, hix, hb, hc⟩ := hv'.1.idx (j := i) hiq
        have f1 : Fr H' o' (H'.new ⟨[cv (x5 (q.getD i 0))], 2, 1, false⟩) (o'.up H'.length (-3)) [] := (Fr.refl _ _ _).new _ _
        have s1 : IntsR (H'.new ⟨[cv (x5 (q.getD i 0))], 2, 1, false⟩) (o'.up H'.length (-3)) (-3) (.slice (some ⟨H'.length, 0, none⟩) 1 1) [x5 (q.getD i 0)] := (Sli.new H' o' (-3) 2 [x5 (q.getD i 0)]).ints
        have hb1 := bI1 (x5 (q.getD i 0)) H'
        generalize H'.new ⟨[cv (x5 (q.getD i 0))], 2, 1, false⟩ = H1 at f1 s1 hb1
        generalize o'.up H'.length (-3) = o1 at f1 s1
        obtain ⟨x2, H2, o2, e2, c2, f2, _⟩ := app_spec 2 (hs'.fr f1 (by simp)) s1.1 (by simp; omega)
        have hw : IntKind.i64.wrap ((i : Int) + 1) = ((i + 1 : Nat) : Int) := by rw [w64 (by omega)]; omega
        have hlist : first :: (q.take i).map x5 ++ [x5 (q.getD i 0)] = first :: (q.take (i + 1)).map x5 := by
          have e1 : q.take (i + 1) = q.take i ++ [q[i]] := by rw [List.take_add_one, List.getElem?_eq_getElem hiq]; rfl
          have e2 : q.getD i 0 = q[i] := by rw [List.getD_eq_getElem?_getD, List.getElem?_eq_getElem hiq]; rfl
          rw [e1, e2, List.map_append]; rfl
        rw [hlist] at c2
        refine .inl ⟨[v0, v, v2, v3, v8, v19, v9, v10, v30, cv ((i + 1 : Nat) : Int), .bool true, x2, v14, v13, v15, v102, v16, v105, v135], H2, k, Nat.lt_succ_self k, ?_, i + 1, o2, _, _, by omega, rfl, c2, (hf.tr (f1.wk (by simp))).tr f2⟩
        simp only [x5] at hb1
        simp -implicitDefEqProofs [-List.getD_eq_getElem?_getD, -Int.natCast_add, F9_b0_v, F9_b0v, hvl, lss_int, h1, hix, ld1_pv _ _ _ hb, hc, xor_int, hb1, e2, add_int, hw, fin])
    q.length [v0, v, v2, v3, v8, v19, v9, v10, v30, cv (0 : Nat), v36, x, v14, v13, v15, v102, v16, v105, v135] H ⟨0, o, _, _, by omega, rfl, by simpa using hx, .refl _ _ _⟩ K hK
  obtain ⟨e, vs, H'⟩ := r
  simp only at h1 h2 h3
  subst h1 h2
  exact ⟨H', o', x', d12, d36, hit, h3⟩
theorem at_tail {M : MV} {Z w : List Int} (h : M.cs = Z ++ w) (t : Nat) : M.at ((Z.length : Int) + 1 + t) = w.getD t 0 := by
  have : (Z.length : Int) + 1 + t = ((Z.length + t : Nat) : Int) + 1 := by omega
  rw [this, at_in, h, List.getD_eq_getElem?_getD, List.getElem?_append_right (by omega), List.getD_eq_getElem?_getD]
  congr 2; omega
theorem places_check {G : Oracle} {o : Own} {H : Heap} {v0 v v2 v3 v19 v10 v30 v12 v36 x v14 v102 : Value} {p : Nat} {M : MV} {Z q c : List Int} {size oq : Int} (hv : IntsR H o oq v q) (hx : IntsR H o (-2) x c) (hm : MemR H o p M) (hcs : M.cs = Z ++ ([(c.length : Int), size, 0, 0, 0] ++ q ++ c)) (hlen : c.length = q.length + 1) (h100 : q.length ≤ 100) (hZ : Z.length ≤ 100) (v105 v135 : Value) :
    ∃ H' o' d16 d105 d135, iter 100000 (F9_b2 (run G 100000) 100000) [v0, v, v2, v3, .bool false, v19, pv p, v10, v30, v12, v36, x, v14, cv ((Z.length : Int) + 1), cv c.length, v102, cv 0, v105, v135] H =
      some (.exit 2, [v0, v, v2, v3, .bool false, v19, pv p, v10, v30, v12, v36, x, v14, cv ((Z.length : Int) + 1), cv c.length, v102, d16, d105, d135], H') ∧ MemR H' o' p M := by
  obtain ⟨r, hit, hne, h1, o', d16, d105, d135, h2, h3⟩ := iter_go (step := F9_b2 (run G 100000) 100000)
    (Q := fun k vs H' => ∃ (i : Nat) (o' : Own) (d105 d135 : Value), i + k = c.length ∧ vs = [v0, v, v2, v3, .bool false, v19, pv p, v10, v30, v12, v36, x, v14, cv ((Z.length : Int) + 1), cv c.length, v102, cv i, d105, d135] ∧ Fr H o H' o' [])
    (R := fun r => r.1 = .exit 2 ∧ ∃ (o' : Own) (d16 d105 d135 : Value), r.2.1 = [v0, v, v2, v3, .bool false, v19, pv p, v10, v30, v12, v36, x, v14, cv ((Z.length : Int) + 1), cv c.length, v102, d16, d105, d135] ∧ MemR r.2.2 o' p M)
    (by
      rintro k vs H' ⟨i, o', d105, d135, hi, rfl, hf⟩
      have hv' := hv.fr hf (by simp)
      have hx' := hx.fr hf (by simp)
      have hm' := hm.fr hf (by simp)
      have hvl := hv'.1.len
      cases k with
      | zero =>
        have h1 : ¬ ((i : Int) < c.length) := by omega
        refine .inr ⟨(.exit 2, [v0, v, v2, v3, .bool false, v19, pv p, v10, v30, v12, v36, x, v14, cv ((Z.length : Int) + 1), cv c.length, v102, cv i, .bool false, d135], H'), ?_, by simp, rfl, o', _, _, _, rfl, hm'⟩
        simp -implicitDefEqProofs [F9_b2_v, F9_b2v, lss_int, h1, fin]
      | succ k =>
        have h1 : ((i : Int) < c.length) := by omega
        obtain ⟨H2, o2, e2, f2⟩ := ChildAt_runs (G := G) (H := H') (o := o') ((Z.length : Int) + 1) c.length i 99967
        have hnear : ∀ z : Int, 0 ≤ z → z ≤ 1000 → nearI z = true := fun z h1 h2 => by rw [nearI_iff]; omega
        have hca : childAtI ((Z.length : Int) + 1) c.length i = (Z.length : Int) + 1 + ((4 + c.length + i : Nat) : Int) := by
          unfold childAtI; rw [hnear _ (by omega) (by omega), hnear _ (by omega) (by omega), hnear _ (by omega) (by omega)]; simp; omega
        rw [hca] at e2
        have m2 := hm'.fr f2 (by simp)
        have a2 := At_runs (G := G) m2 ((Z.length : Int) + 1 + ((4 + c.length + i : Nat) : Int)) 99999
        rw [at_tail hcs] at a2
        have hcv : ([(c.length : Int), size, 0, 0, 0] ++ q ++ c).getD (4 + c.length + i) 0 = c.getD i 0 := by
          have e : 4 + c.length + i - ([(c.length : Int), size, 0, 0, 0] ++ q).length = i := by simp; omega
          rw [List.getD_eq_getElem?_getD, List.getElem?_append_right (by simp; omega), e, List.getD_eq_getElem?_getD]
        rw [hcv] at a2
        obtain ⟨b, off, B, hix, hb, hc⟩ := hx'.1.idx (j := i) (by omega)
        have hx2 := hx'.fr f2 (by simp)
        obtain ⟨b2, off2, B2, hix2, hb2, hc2⟩ := hx2.1.idx (j := i) (by omega)
        have heq := (hix H').symm.trans (hix2 H')
        simp only [Option.some.injEq, Prod.mk.injEq, Value.pointer.injEq, Addr.mk.injEq, and_true] at heq
        obtain ⟨rfl, rfl⟩ := heq
        have hw : IntKind.i64.wrap ((i : Int) + 1) = ((i + 1 : Nat) : Int) := by rw [w64 (by omega)]; omega
        by_cases hi0 : (i : Int) > 0
        · obtain ⟨H3, o3, e3, f3⟩ := KeyAt_runs (G := G) (H := H2) (o := o2) ((Z.length : Int) + 1) i 99967
          have hka : keyAtI ((Z.length : Int) + 1) i = (Z.length : Int) + 1 + ((4 + i : Nat) : Int) := by
            unfold keyAtI; rw [hnear _ (by omega) (by omega), hnear _ (by omega) (by omega)]; simp; omega
          rw [hka] at e3
          have m3 := m2.fr f3 (by simp)
          have a3 := At_runs (G := G) m3 ((Z.length : Int) + 1 + ((4 + i : Nat) : Int)) 99999
          rw [at_tail hcs] at a3
          have hkv : ([(c.length : Int), size, 0, 0, 0] ++ q ++ c).getD (4 + i) 0 = q.getD (i - 1) 0 := by
            have e : 4 + i - ([(c.length : Int), size, 0, 0, 0] : List Int).length = i - 1 := by simp; omega
            rw [List.append_assoc, List.getD_eq_getElem?_getD, List.getElem?_append_right (by simp; omega), e, List.getElem?_append_left (by omega), List.getD_eq_getElem?_getD]
          rw [hkv] at a3
          obtain ⟨j, rfl⟩ : ∃ j, i = j + 1 := ⟨i - 1, by omega⟩
          simp only [Nat.add_sub_cancel] at a3
          have hwj : IntKind.i64.wrap (((j + 1 : Nat) : Int) - 1) = j := by rw [w64 (by omega)]; omega
          have hx3 := hx2.fr f3 (by simp)
          obtain ⟨b3, off3, B3, hix3, hb3, hc3⟩ := hx3.1.idx (j := j + 1) (by omega)
          have heq := (hix H').symm.trans (hix3 H')
          simp only [Option.some.injEq, Prod.mk.injEq, Value.pointer.injEq, Addr.mk.injEq, and_true] at heq
          obtain ⟨rfl, rfl⟩ := heq
          obtain ⟨b4, off4, B4, hix4, hb4, hc4⟩ := hv'.1.idx (j := j) (by omega)
          have hv2 := hv'.fr f2 (by simp)
          obtain ⟨b5, off5, B5, hix5, hb5, hc5⟩ := hv2.1.idx (j := j) (by omega)
          have heq := (hix4 H').symm.trans (hix5 H')
          simp only [Option.some.injEq, Prod.mk.injEq, Value.pointer.injEq, Addr.mk.injEq, and_true] at heq
          obtain ⟨rfl, rfl⟩ := heq
          obtain ⟨b6, off6, B6, hix6, hb6, hc6⟩ := (hv2.fr f3 (by simp)).1.idx (j := j) (by omega)
          have heq := (hix4 H').symm.trans (hix6 H')
          simp only [Option.some.injEq, Prod.mk.injEq, Value.pointer.injEq, Addr.mk.injEq, and_true] at heq
          obtain ⟨rfl, rfl⟩ := heq
          refine .inl ⟨[v0, v, v2, v3, .bool false, v19, pv p, v10, v30, v12, v36, x, v14, cv ((Z.length : Int) + 1), cv c.length, v102, cv ((j + 1 + 1 : Nat) : Int), .bool true, .bool false], H3, k, Nat.lt_succ_self k, ?_, j + 1 + 1, o3, _, _, by omega, rfl, (hf.tr f2).tr f3⟩
          simp -implicitDefEqProofs [-List.getD_eq_getElem?_getD, -Int.natCast_add, -gt_iff_lt, -Int.natCast_pos, F9_b2_v, F9_b2v, lss_int, h1, e2, a2, hix, ld1_pv _ _ _ hb, ld1_pv _ _ _ hb2, ld1_pv _ _ _ hb3, hc, hc2, hc3, neq_int, gtr_int, hi0, pick_bool, e3, a3, sub_int, hwj, hix4, ld1_pv _ _ _ hb4, ld1_pv _ _ _ hb5, ld1_pv _ _ _ hb6, hc4, hc5, hc6, add_int, hw, fin]
        · refine .inl ⟨[v0, v, v2, v3, .bool false, v19, pv p, v10, v30, v12, v36, x, v14, cv ((Z.length : Int) + 1), cv c.length, v102, cv ((i + 1 : Nat) : Int), .bool true, .bool false], H2, k, Nat.lt_succ_self k, ?_, i + 1, o2, _, _, by omega, rfl, hf.tr f2⟩
          simp -implicitDefEqProofs [-List.getD_eq_getElem?_getD, -Int.natCast_add, -gt_iff_lt, -Int.natCast_pos, F9_b2_v, F9_b2v, lss_int, h1, e2, a2, hix, ld1_pv _ _ _ hb, ld1_pv _ _ _ hb2, hc, hc2, neq_int, gtr_int, hi0, pick_bool, add_int, hw, fin])
    c.length [v0, v, v2, v3, .bool false, v19, pv p, v10, v30, v12, v36, x, v14, cv ((Z.length : Int) + 1), cv c.length, v102, cv (0 : Nat), v105, v135] H ⟨0, o, _, _, by omega, rfl, .refl _ _ _⟩ 100000 (by omega)
  obtain ⟨e, vs, H'⟩ := r
  simp only at h1 h2 h3
  subst h1 h2
  exact ⟨H', o', d16, d105, d135, hit, h3⟩
theorem wnl {a b : Int} (h1 : 0 ≤ a ∧ a ≤ 1000) (h2 : 0 ≤ b ∧ b ≤ 1000) : IntKind.i64.wrap (a + 1 + 2 * b) = a + 1 + 2 * b := w64 (by omega)
theorem wol {a b : Int} (h1 : 0 ≤ a ∧ a ≤ 1000) (h2 : 0 ≤ b ∧ b ≤ 1000) : IntKind.i64.wrap (a + 1 + 2 * b + 3) = a + 1 + 2 * b + 3 := w64 (by omega)
theorem NodePlaces_run {H : Heap} {v : Value} {q : List Int} (hv : IntsR H o0 (-1) v q) (size first pad : Int) (hp : W64 pad) : ∃ n H', run (knownG ks) n 9 [cv size, v, cv first, cv pad] H = some (.bool true, H') := by
  refine ⟨100001, ?_⟩
  rw [F9_eq]
  have hk := fun H => known_runs 36 (by decide) 99999 H
  have hvl := hv.1.len
  by_cases hl : (q.length : Int) > 100
  · refine ⟨H, ?_⟩
    simp -implicitDefEqProofs [-gt_iff_lt, F9, hvl, gtr_int, hl, hk]
  obtain ⟨H1, e1, m1, f1⟩ := New_runs (G := knownG ks) (H := H) o0 400 (by omega) 99999
  have f2 : Fr H1 (o0.up H.length H.length) (H1.new ⟨[cv first], 2, 1, false⟩) ((o0.up H.length H.length).up H1.length (-2)) [] := (Fr.refl _ _ _).new _ _
  have s2 : Sli (H1.new ⟨[cv first], 2, 1, false⟩) ((o0.up H.length H.length).up H1.length (-2)) (-2) (.slice (some ⟨H1.length, 0, none⟩) 1 1) [first] := Sli.new H1 (o0.up H.length H.length) (-2) 2 [first]
  have hb1 := bI1 first H1
  generalize H1.new ⟨[cv first], 2, 1, false⟩ = H2 at f2 s2 hb1
  generalize (o0.up H.length H.length).up H1.length (-2) = o2 at f2 s2
  have v2 := (hv.fr f1 (by simp)).fr f2 (by simp)
  have m2 := m1.fr f2 (by simp)
  obtain ⟨H3, o3, x3, d12, d36, e3, c3, f3⟩ := places_fill (C := run (knownG ks) 100000) (v0 := cv size) (v2 := cv first) (v3 := cv pad) (v8 := .bool false) (v19 := .bool false) (v9 := pv H.length) (v10 := cv 0) (v30 := .bool false) (v14 := undef) (v13 := undef) (v15 := undef) (v102 := undef) (v16 := undef) (v105 := undef) (v135 := undef) (K := 100000) v2 (by omega) s2 undef (by omega) (by omega)
  generalize hcl : first :: q.map x5 = c at c3
  have hclen : c.length = q.length + 1 := by rw [← hcl]; simp
  have m3 := m2.fr f3 (by simp)
  have v3 := v2.fr f3 (by simp)
  have hcut := Cut_runs (G := knownG ks) 99999 pad 20 hp (by omega) H3
  have hp1 := Int.emod_nonneg pad (show (20 : Int) ≠ 0 by omega)
  have hp2 := Int.emod_lt_of_pos pad (show (0 : Int) < 20 by omega)
  generalize pad % 20 = r at hcut hp1 hp2
  have hw1 : IntKind.i64.wrap (1 + r) = 1 + r := w64 (by omega)
  obtain ⟨x4, H4, e4, c4, f4⟩ := mk_runs 2 o3 (-4) (1 + r) (by omega) H3
  generalize o3.up H3.length (-4) = o4 at c4 f4
  generalize hZ : List.replicate (1 + r).toNat (0 : Int) = Z at c4
  have hZl : (Z.length : Int) = 1 + r := by rw [← hZ, List.length_replicate]; omega
  have hzb : 0 ≤ (Z.length : Int) ∧ (Z.length : Int) ≤ 1000 := by omega
  have hcb : 0 ≤ (c.length : Int) ∧ (c.length : Int) ≤ 1000 := by omega
  have m4 := m3.fr f4 (by simp)
  have v4 := v3.fr f4 (by simp)
  have s4 := c3.fr f4 (by simp)
  obtain ⟨H5, o5, e5, m5, f5⟩ := Make_runs (G := knownG ks) m4 c4.ints (by omega) (by simp [MV.fresh]) (by simp [MV.fresh]) (by omega) 99999
  have v5 := v4.fr f5 (nm (by omega) _)
  have s5 := s4.fr f5 (nm (by omega) _)
  have hM5 := made_cs 400 Z (by omega)
  have hx5 : ((MV.fresh 400).made Z).max = 400 := made_max _ _
  generalize (MV.fresh 400).made Z = M5 at m5 hM5 hx5
  obtain ⟨x6, H6, o6, e6, c6, f6⟩ := Inner_runs (G := knownG ks) size v5 s5.ints (-5) (by omega) (by omega) (by omega) (by omega) 99988
  have m6 := m5.fr f6 (by simp)
  have v6 := v5.fr f6 (by simp)
  have s6 := s5.fr f6 (by simp)
  have hin : innerW size q c = [(c.length : Int), size, 0, 0, 0] ++ q ++ c := by unfold innerW; rw [if_pos hclen]
  rw [hin] at c6
  have hwl : ([(c.length : Int), size, 0, 0, 0] ++ q ++ c).length = 5 + q.length + c.length := by simp; omega
  obtain ⟨H7, o7, e7, m7, f7⟩ := Make_runs (G := knownG ks) m6 c6.ints (by omega) (by omega) (by rw [hM5]; omega) (by rw [hwl]; omega) 99999
  have v7 := v6.fr f7 (nm (by omega) _)
  have s7 := s6.fr f7 (nm (by omega) _)
  have hroom : M5.room ([(c.length : Int), size, 0, 0, 0] ++ q ++ c).length = true := by
    rw [hwl]; simp only [MV.room, decide_eq_true_eq, hM5]; omega
  have hM7 : (M5.made ([(c.length : Int), size, 0, 0, 0] ++ q ++ c)).cs = Z ++ ([(c.length : Int), size, 0, 0, 0] ++ q ++ c) := by unfold MV.made; rw [hroom]; simp [hM5]
  rw [hroom, hM5] at e7
  generalize hM7' : M5.made ([(c.length : Int), size, 0, 0, 0] ++ q ++ c) = M7 at m7 hM7
  have hsl := s7.ints.1.len
  have t0 : M7.at ((Z.length : Int) + 1) = c.length := by have := at_tail hM7 0; rw [show (Z.length : Int) + 1 + ((0 : Nat) : Int) = (Z.length : Int) + 1 by omega] at this; rw [this]; rfl
  have t1 : M7.at ((Z.length : Int) + 1 + 1) = size := at_tail hM7 1
  have t2 : M7.at ((Z.length : Int) + 1 + 2) = 0 := at_tail hM7 2
  have t3 : M7.at ((Z.length : Int) + 1 + 3) = 0 := at_tail hM7 3
  have t4 : M7.at ((Z.length : Int) + 1 + 4) = 0 := at_tail hM7 4
  have a0 := At_runs (G := knownG ks) m7 ((Z.length : Int) + 1) 99999
  have a1 := At_runs (G := knownG ks) m7 ((Z.length : Int) + 1 + 1) 99999
  have a2 := At_runs (G := knownG ks) m7 ((Z.length : Int) + 1 + 2) 99999
  have a3 := At_runs (G := knownG ks) m7 ((Z.length : Int) + 1 + 3) 99999
  have a4 := At_runs (G := knownG ks) m7 ((Z.length : Int) + 1 + 4) 99999
  rw [t0] at a0; rw [t1] at a1; rw [t2] at a2; rw [t3] at a3; rw [t4] at a4
  have b0' : IntKind.i64.wrap ((Z.length : Int) + 1) = (Z.length : Int) + 1 := w64 (by omega)
  have b1 : IntKind.i64.wrap ((Z.length : Int) + 1 + 1) = (Z.length : Int) + 1 + 1 := w64 (by omega)
  have b2 : IntKind.i64.wrap ((Z.length : Int) + 1 + 2) = (Z.length : Int) + 1 + 2 := w64 (by omega)
  have b3 : IntKind.i64.wrap ((Z.length : Int) + 1 + 3) = (Z.length : Int) + 1 + 3 := w64 (by omega)
  have b4 : IntKind.i64.wrap ((Z.length : Int) + 1 + 4) = (Z.length : Int) + 1 + 4 := w64 (by omega)
  obtain ⟨H8, o8, d16, d105, d135, e8, m8⟩ := places_check (G := knownG ks) (v0 := cv size) (v2 := cv first) (v3 := cv pad) (v19 := .bool false) (v10 := cv 0) (v30 := .bool false) (v12 := d12) (v36 := d36) (v14 := .bool true) (v102 := .bool false) v7 s7.ints m7 hM7 hclen (by omega) (by omega) undef undef
  have u8 := Used_runs (G := knownG ks) m8 99999
  have hlen8 : (M7.cs.length : Int) = (Z.length : Int) + 1 + 2 * c.length + 3 := by rw [hM7, List.length_append, hwl]; omega
  rw [hlen8] at u8
  have wd : IntKind.i64.wrap ((c.length : Int) - 1) = q.length := by rw [w64 (by omega)]; omega
  obtain ⟨H9, o9, e9, f9⟩ := ChildAt_runs (G := knownG ks) (H := H8) (o := o8) ((Z.length : Int) + 1) c.length q.length 99967
  have hnear : ∀ z : Int, 0 ≤ z → z ≤ 1000 → nearI z = true := fun z h1 h2 => by rw [nearI_iff]; omega
  have hca : childAtI ((Z.length : Int) + 1) c.length q.length = (Z.length : Int) + 1 + 2 * c.length + 3 := by
    unfold childAtI; rw [hnear _ (by omega) (by omega), hnear _ (by omega) (by omega), hnear _ (by omega) (by omega)]; simp; omega
  rw [hca] at e9
  have u9 := Used_runs (G := knownG ks) (m8.fr f9 (by simp)) 99999
  rw [hlen8] at u9
  have wm : IntKind.i64.wrap (2 * (c.length : Int)) = 2 * c.length := w64 (by omega)
  have wn : IntKind.i64.wrap ((Z.length : Int) + 1 + 2 * c.length) = (Z.length : Int) + 1 + 2 * c.length := wnl hzb hcb
  have wo : IntKind.i64.wrap ((Z.length : Int) + 1 + 2 * c.length + 3) = (Z.length : Int) + 1 + 2 * c.length + 3 := wol hzb hcb
  have wc : IntKind.i64.wrap (c.length : Int) = c.length := w64 (by omega)
  refine ⟨H9, ?_⟩
  simp only [if_true] at e7
  simp -implicitDefEqProofs [-gt_iff_lt, -Int.natCast_add, F9, hvl, gtr_int, hl, hk, e1, ext_i, ptr_eql_nil _ ptM, neq_int, pick_bool, hb1, e3, F9_j1_v, F9_j1v, hcut, add_int, hw1, e4, e5, e6, e7, hsl, not_bool, b0', b1, b2, b3, b4, a0, a1, a2, a3, a4, wc, e8, F9_j3_v, F9_j3v, sub_int, wd, e9, u9, u8, eql_int, mul_int, wm, wn, wo]
end Go.Proofs.Ytpenlcigickkbaa.Fun
namespace Go.Proofs.Ytpenlcigickkbaa.Pure
open Go.RowKit Go.Proofs.YtpenlcigickkbaaA.Am Fun
theorem NodePlaces_law : Law Try.prog 9 [3, 28, 2, 3] := law_of fun H args hr hi => by
  obtain ⟨v0, _, rfl, h0, v1, _, rfl, h1, v2, _, rfl, h2, v3, _, rfl, h3, rfl⟩ := hi
  obtain ⟨a, rfl, ha⟩ := h0.int (show Try.prog.underlying 3 = _ from by kernel_rfl)
  obtain ⟨w, hv, _, _⟩ := h1.ints slI (show Try.prog.underlying 2 = _ from by kernel_rfl) (by kernel_rfl)
  obtain ⟨b, rfl, hb⟩ := h2.int (show Try.prog.underlying 2 = _ from by kernel_rfl)
  obtain ⟨c, rfl, hc⟩ := h3.int (show Try.prog.underlying 3 = _ from by kernel_rfl)
  exact NodePlaces_run hv a b c hc
end Go.Proofs.Ytpenlcigickkbaa.Pure
