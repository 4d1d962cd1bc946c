/- MemPlays over the abstract machine. -/
import Derived.Test.YtpenlcigickkbaaFun0
import Derived.Test.YtpenlcigickkbaaFun2
import Derived.Test.YtpenlcigickkbaaFun3
import Derived.Test.YtpenlcigickkbaaFunMemPlays
import Derived.Test.YtpenlcigickkbaaRef7
import Derived.Test.YtpenlcigickkbaaOpIn
import Derived.Test.YtpenlcigickkbaaKnown
import Derived.Test.YtpenlcigickkbaaFunMemPlays
namespace Go.Proofs.Ytpenlcigickkbaa.Fun
open Go.RowKit Go.Proofs.YtpenlcigickkbaaA.Am
set_option linter.unusedVariables false
set_option linter.unusedSimpArgs false
def placeV (O : OpV) (used : Nat) : Int := if O.near then O.a % (used + 3) - 1 else O.a
theorem place_runs {G : Oracle} {H : Heap} {o : Own} {O : OpV} {W : Value} (hO : OpOk O) (hW : IntsR H o (-1) W O.w) (used : Nat) (hu : used ≤ 65536) (n : Nat) :
    run G (n + 2) 68 [.agg (opCells O W).toArray, cv used] H = some (cv (placeV O used), H.new ⟨opCells O W, 42, 1, false⟩) := by
  rw [F68_eq]
  have hbox := box_op O hW
  have L := fun i => ld1_pv H.length i (H.new ⟨opCells O W, 42, 1, false⟩) get_new
  have hw : IntKind.i64.wrap ((used : Int) + 3) = (used : Int) + 3 := w64 (by omega)
  have hcut := Cut_runs (G := G) n O.a ((used : Int) + 3) hO.2.1 (by omega) (H.new ⟨opCells O W, 42, 1, false⟩)
  have hb1 := Int.emod_nonneg O.a (show (used : Int) + 3 ≠ 0 by omega)
  have hb2 := Int.emod_lt_of_pos O.a (show (0 : Int) < (used : Int) + 3 by omega)
  have hw2 : IntKind.i64.wrap (O.a % ((used : Int) + 3) - 1) = O.a % ((used : Int) + 3) - 1 := w64 (by omega)
  cases hn : O.near with
  | true => simp -implicitDefEqProofs [F68, hbox, fad_pv, L, hn, add_int, hw, hcut, sub_int, hw2, placeV]
  | false => simp -implicitDefEqProofs [F68, hbox, fad_pv, L, hn, placeV]
theorem plays_turn {C : Oracle} {o : Own} {s : Value} {v0 v1 v2 v6 v5 v24 v25 v9 v11 v10 v12 v66 v7 v75 v87 v94 v14 v111 : Value} {K : Nat} : ∀ (len : Nat) (H : Heap) (l : List Int) (v47 : Value), Sli H o (-2) s l → l.length = len → len < K → len ≤ 65536 →
    ∃ H' d13 d47, iter K (F31_b1 C K) [v0, v1, v2, v6, v5, v24, v25, s, cv 0, v47, v9, v11, v10, v12, v66, v7, v75, v87, v94, v14, v111] H =
      some (.exit 1, [v0, v1, v2, v6, v5, v24, v25, s, d13, d47, v9, v11, v10, v12, v66, v7, v75, v87, v94, v14, v111], H') ∧ Fr H o H' o [-2] := by
  intro len H l v47 hs hl hK h65
  obtain ⟨r, hit, hne, h1, d13, d47, h2, h3⟩ := iter_go (step := F31_b1 C K)
    (Q := fun k vs H' => ∃ (i : Nat) (d47 : Value) (l' : List Int), i + k = len ∧ vs = [v0, v1, v2, v6, v5, v24, v25, s, cv i, d47, v9, v11, v10, v12, v66, v7, v75, v87, v94, v14, v111] ∧ Sli H' o (-2) s l' ∧ l'.length = len ∧ Fr H o H' o [-2])
    (R := fun r => r.1 = .exit 1 ∧ ∃ d13 d47, r.2.1 = [v0, v1, v2, v6, v5, v24, v25, s, d13, d47, v9, v11, v10, v12, v66, v7, v75, v87, v94, v14, v111] ∧ Fr H o r.2.2 o [-2])
    (by
      rintro k vs H' ⟨i, d47, l', hi, rfl, hs', hl', hf⟩
      have hsl := hs'.ints.1.len
      cases k with
      | zero =>
        have h1 : ¬ ((i : Int) < l'.length) := by omega
        refine .inr ⟨(.exit 1, [v0, v1, v2, v6, v5, v24, v25, s, cv i, .bool false, v9, v11, v10, v12, v66, v7, v75, v87, v94, v14, v111], H'), ?_, by simp, rfl, _, _, rfl, hf⟩
        simp -implicitDefEqProofs [F31_b1_v, F31_b1v, hsl, lss_int, h1, fin]
      | succ k =>
        have h1 : ((i : Int) < l'.length) := by omega
        obtain ⟨q, b, c', hix, hb, hro, hoq, hcell, ⟨n1, k1, hsq⟩, hst, hs2⟩ := hs'.set (j := i) (by omega) (IntKind.i64.wrap (l'.getD i 0 + 1))
        have hw : IntKind.i64.wrap ((i : Int) + 1) = ((i + 1 : Nat) : Int) := by rw [w64 (by omega)]; omega
        refine .inl ⟨[v0, v1, v2, v6, v5, v24, v25, s, cv ((i + 1 : Nat) : Int), .bool true, v9, v11, v10, v12, v66, v7, v75, v87, v94, v14, v111], H'.put q c', k, Nat.lt_succ_self k, ?_, i + 1, .bool true, _, by omega, rfl, hs2, by simpa using hl', hf.put (fun hq => by rw [← hoq]; simp [hf.own q hq])⟩
        simp -implicitDefEqProofs [-List.getD_eq_getElem?_getD, -Int.natCast_add, F31_b1_v, F31_b1v, hsl, lss_int, h1, hix, ld1_pv _ _ _ hb, hcell, hst, add_int, hw, fin])
    len [v0, v1, v2, v6, v5, v24, v25, s, cv (0 : Nat), v47, v9, v11, v10, v12, v66, v7, v75, v87, v94, v14, v111] H ⟨0, _, l, by omega, rfl, hs, hl, .refl _ _ _⟩ K hK
  obtain ⟨e, vs, H'⟩ := r
  simp only at h1 h2 h3
  subst h1 h2
  exact ⟨H', d13, d47, hit, h3⟩
theorem blT : Try.prog.underlying 4 = some .bool := by kernel_rfl
/-- One operation of both. -/
theorem step_runs {G : Oracle} {H : Heap} {o : Own} {p q : Nat} {M : MV} {O : OpV} {W : Value} (hm : MemR H o p M) (hx : RefR H o q M) (hpq : p ≠ q) (hO : OpOk O) (hW : IntsR H o (-1) W O.w) (hmx : 0 ≤ M.max ∧ M.max ≤ 65536) (hle : (M.cs.length : Int) ≤ M.max) (h100 : O.w.length ≤ 100) :
    ∃ H' o' M', run G 100000 31 [pv p, pv q, .agg (opCells O W).toArray] H = some (.bool true, H') ∧ MemR H' o' p M' ∧ RefR H' o' q M' ∧ M'.max = M.max ∧ (M'.cs.length : Int) ≤ M.max ∧ Fr H o H' o' [p, q, -2] := by
  rw [F31_eq]
  have hbox := box_op O hW
  have f1 : Fr H o (H.new ⟨opCells O W, 42, 1, false⟩) (o.up H.length H.length) [] := (Fr.refl _ _ _).new _ _
  have b1 := B1.new H o ⟨opCells O W, 42, 1, false⟩
  have hpl := hm.lt
  have hql := hx.lt
  have hn6 := ldn_pv 6 H.length _ b1.1 rfl
  generalize H.new ⟨opCells O W, 42, 1, false⟩ = H1 at hbox f1 b1 hn6
  have w1 := hW.fr f1 (by simp)
  have m1 := hm.fr f1 (by simp)
  have x1 := hx.fr f1 (by simp)
  obtain ⟨s1, ty1, g1, i1⟩ := x1.open
  have hsl := i1.1.len
  have hfit := hm.fits
  have hpl := place_runs (G := G) hO w1 M.cs.length hfit 99997
  have f2 : Fr H1 (o.up H.length H.length) (H1.new ⟨opCells O W, 42, 1, false⟩) ((o.up H.length H.length).up H1.length H1.length) [] := (Fr.refl _ _ _).new _ _
  generalize H1.new ⟨opCells O W, 42, 1, false⟩ = H2 at hpl f2
  generalize (o.up H.length H.length).up H1.length H1.length = o2 at f2
  have b2 := b1.fr f2 (by simp)
  have w2 := w1.fr f2 (by simp)
  have m2 := m1.fr f2 (by simp)
  have x2 := x1.fr f2 (by simp)
  have hbl := b2.lt
  have L2 := fun i => ld1_pv H.length i H2 b2.1
  have hcut := Cut_runs (G := G) 99998 O.kind 6 hO.1 (by omega) H2
  have hk1 := Int.emod_nonneg O.kind (show (6 : Int) ≠ 0 by omega)
  have hk2 := Int.emod_lt_of_pos O.kind (show (0 : Int) < 6 by omega)
  have fA : Fr H o H2 o2 [p, q, -2] := (f1.wk (by simp)).tr (f2.wk (by simp))
  generalize O.kind % 6 = kd at hcut hk1 hk2
  generalize placeV O M.cs.length = a at hpl
  have hseen : ∀ (M : MV) a, (M.seen a).max = M.max ∧ (M.seen a).cs.length = M.cs.length := fun M a => by unfold MV.seen; split <;> exact ⟨rfl, rfl⟩
  have hwr : ∀ (M : MV) a x, (M.wrote a x).max = M.max ∧ (M.wrote a x).cs.length = M.cs.length := fun M a x => by unfold MV.wrote; split <;> simp [MV.acc, MV.set, MV.oddly]
  have hca : ∀ (M : MV) a x y, (M.cas a x y).max = M.max ∧ (M.cas a x y).cs.length = M.cs.length := fun M a x y => by
    unfold MV.cas; split
    · simp [MV.acc, MV.set]
    · exact hseen M a
  have had : ∀ (M : MV) a x, (M.added a x).max = M.max ∧ (M.added a x).cs.length = M.cs.length := fun M a x => by unfold MV.added; split <;> simp [MV.acc, MV.set, MV.oddly]
  rcases (show kd = 0 ∨ kd = 1 ∨ kd = 2 ∨ kd = 3 ∨ kd = 4 ∨ kd = 5 by omega) with rfl | rfl | rfl | rfl | rfl | rfl
  · -- Make
    have hb0 := build0 H2
    have f3 : Fr H2 o2 (H2.new ⟨[], 2, 1, false⟩) (o2.up H2.length (-2)) [] := (Fr.refl _ _ _).new _ _
    have s3 : Sli (H2.new ⟨[], 2, 1, false⟩) (o2.up H2.length (-2)) (-2) (.slice (some ⟨H2.length, 0, none⟩) 0 0) [] := .inr ⟨H2.length, 0, [], 2, rfl, by simpa using get_new, rfl, up_self⟩
    generalize H2.new ⟨[], 2, 1, false⟩ = H3 at hb0 f3 s3
    have w3 := w2.fr f3 (by simp)
    have b3 := b2.fr f3 (by simp)
    have L3 := fun i => ld1_pv H.length i H3 b3.1
    obtain ⟨s', H4, o4, e4, s4, f4, _⟩ := app_spec 2 s3 w3.1 (by simp; omega)
    rw [List.nil_append] at s4
    have m4 := (m2.fr f3 (by simp)).fr f4 (by simp)
    have x4 := (x2.fr f3 (by simp)).fr f4 (by simp)
    have w4 := w3.fr f4 (by simp)
    have b4 := b3.fr f4 (by simp)
    obtain ⟨H5, o5, e5, m5, f5⟩ := Make_runs (G := G) m4 s4.ints (by omega) hmx hle (by omega) 99998
    have x5 := x4.fr f5 (nm2 (fun e => hpq e.symm))
    have w5 := w4.fr f5 (nm (by omega) _)
    have b5 := b4.fr f5 (nm2 (by omega))
    have L5 := fun i => ld1_pv H.length i H5 b5.1
    have s5 := s4.fr f5 (nm (by omega) _)
    obtain ⟨H6, o6, e6, x6, f6⟩ := RMake_runs (G := G) x5 w5 (by omega) hmx hle (by omega) 99998
    have m6 := m5.fr f6 (nm2 hpq)
    have s6 := s5.fr f6 (nm (by omega) _)
    obtain ⟨H7, d13, d47, e7, f7⟩ := plays_turn (C := run G 99999) (v0 := pv p) (v1 := pv q) (v2 := .agg (opCells O W).toArray) (v6 := .bool false) (v5 := pv H.length) (v24 := cv 0) (v25 := .bool true) (v9 := cv (if M.room O.w.length then M.cs.length + 1 else 0)) (v11 := cv (if M.room O.w.length then M.cs.length + 1 else 0)) (v10 := .bool (M.room O.w.length)) (v12 := .bool (M.room O.w.length)) (v66 := undef) (v7 := cv a) (v75 := undef) (v87 := undef) (v94 := undef) (v14 := undef) (v111 := undef) (K := 99999) O.w.length H6 _ undef s6 rfl (by omega) (by omega)
    have hml : ((M.made O.w).cs.length : Int) ≤ M.max := by
      unfold MV.made; split
      · rename_i h; simp only [MV.room, decide_eq_true_eq] at h; simp; omega
      · exact hle
    refine ⟨H7, o6, M.made O.w, ?_, m6.fr f7 (by simp), x6.fr f7 (by simp), made_max _ _, hml, ((((fA.tr (f3.wk (by simp))).tr (f4.wk (by simp))).tr (f5.wk (by simp))).tr (f6.wk (by simp))).tr (f7.wk (by simp))⟩
    simp -implicitDefEqProofs [F31, hbox, hn6, nck_pv, fad_pv, ld1_pv _ _ _ g1, hsl, hpl, L2, hcut, eql_int, hb0, L3, e4, e5, ext_i, L5, e6, e7, F31_j2_v, F31_j2v, bool_eql _ _ blT, pick_bool]
  · obtain ⟨H3, e3, m3, f3⟩ := Read_runs (G := G) m2 a 99997
    have x3 := x2.fr f3 (nm2 (fun e => hpq e.symm))
    obtain ⟨H4, e4, x4, f4⟩ := RRead_runs (G := G) x3 a 99997
    refine ⟨H4, o2, M.seen a, ?_, m3.fr f4 (nm2 hpq), x4, (hseen _ _).1, by rw [(hseen M a).2]; exact hle, (fA.tr (f3.wk (by simp))).tr (f4.wk (by simp))⟩
    simp -implicitDefEqProofs [F31, hbox, hn6, nck_pv, fad_pv, ld1_pv _ _ _ g1, hsl, hpl, L2, hcut, eql_int, e3, e4]
  · obtain ⟨H3, e3, m3, f3⟩ := Write_runs (G := G) m2 a O.x 99997
    have x3 := x2.fr f3 (nm2 (fun e => hpq e.symm))
    have b3 := b2.fr f3 (nm2 (by omega))
    have L3 := fun i => ld1_pv H.length i H3 b3.1
    obtain ⟨H4, e4, x4, f4⟩ := RWrite_runs (G := G) x3 a O.x 99997
    refine ⟨H4, o2, M.wrote a O.x, ?_, m3.fr f4 (nm2 hpq), x4, (hwr _ _ _).1, by rw [(hwr M a _).2]; exact hle, (fA.tr (f3.wk (by simp))).tr (f4.wk (by simp))⟩
    simp -implicitDefEqProofs [F31, F31_j0_v, F31_j0v, F31_j2_v, F31_j2v, F31_j3_v, F31_j3v, hbox, hn6, nck_pv, fad_pv, ld1_pv _ _ _ g1, hsl, hpl, L2, hcut, eql_int, e3, L3, e4]
  · have key : ∀ old : Int, ∃ H', (∀ x108 : Bool, F31_j3 (run G 99999) 99999 [pv p, pv q, .agg (opCells O W).toArray, .bool false, pv H.length, cv 3, .bool false, undef, undef, undef, undef, undef, undef, undef, .bool false, cv a, .bool false, .bool true, .bool x108, cv old, undef] H2 = some (.bool true, H')) ∧
        MemR H' o2 p (M.cas a old O.x) ∧ RefR H' o2 q (M.cas a old O.x) ∧ Fr H o H' o2 [p, q, -2] := by
      intro old
      obtain ⟨H3, e3, m3, f3⟩ := Cas_runs (G := G) m2 a old O.x 99997
      have x3 := x2.fr f3 (nm2 (fun e => hpq e.symm))
      have b3 := b2.fr f3 (nm2 (by omega))
      have L3 := fun i => ld1_pv H.length i H3 b3.1
      obtain ⟨H4, e4, x4, f4⟩ := RCas_runs (G := G) x3 a old O.x 99997
      refine ⟨H4, fun x108 => ?_, m3.fr f4 (nm2 hpq), x4, (fA.tr (f3.wk (by simp))).tr (f4.wk (by simp))⟩
      simp -implicitDefEqProofs [F31_j3_v, F31_j3v, fad_pv, L2, L3, e3, e4, bool_eql _ _ blT]
    have hr7 := RAt7_runs (G := G) x2 a 99998
    by_cases hx2 : O.x.tmod 2 = 0
    · obtain ⟨H', hj, hm', hx', hf'⟩ := key (M.at a)
      refine ⟨H', o2, _, ?_, hm', hx', (hca _ _ _ _).1, by rw [(hca M _ _ _).2]; exact hle, hf'⟩
      simp -implicitDefEqProofs [F31, hbox, hn6, nck_pv, fad_pv, ld1_pv _ _ _ g1, hsl, hpl, L2, hcut, eql_int, rem_int _ _ _ (show (2 : Int) ≠ 0 by decide), hx2, hr7, hj]
    · obtain ⟨H', hj, hm', hx', hf'⟩ := key O.y
      refine ⟨H', o2, _, ?_, hm', hx', (hca _ _ _ _).1, by rw [(hca M _ _ _).2]; exact hle, hf'⟩
      simp -implicitDefEqProofs [F31, hbox, hn6, nck_pv, fad_pv, ld1_pv _ _ _ g1, hsl, hpl, L2, hcut, eql_int, rem_int _ _ _ (show (2 : Int) ≠ 0 by decide), hx2, hj]
  · obtain ⟨H3, e3, m3, f3⟩ := Add_runs (G := G) m2 a O.x 99997
    have x3 := x2.fr f3 (nm2 (fun e => hpq e.symm))
    have b3 := b2.fr f3 (nm2 (by omega))
    have L3 := fun i => ld1_pv H.length i H3 b3.1
    obtain ⟨H4, e4, x4, f4⟩ := RAdd_runs (G := G) x3 a O.x 99997
    refine ⟨H4, o2, M.added a O.x, ?_, m3.fr f4 (nm2 hpq), x4, (had _ _ _).1, by rw [(had M a _).2]; exact hle, (fA.tr (f3.wk (by simp))).tr (f4.wk (by simp))⟩
    simp -implicitDefEqProofs [F31, hbox, hn6, nck_pv, fad_pv, ld1_pv _ _ _ g1, hsl, hpl, L2, hcut, eql_int, e3, L3, e4]
  · refine ⟨H2, o2, M, ?_, m2, x2, rfl, hle, fA⟩
    simp -implicitDefEqProofs [F31, F31_j0_v, F31_j0v, F31_j2_v, F31_j2v, F31_j3_v, F31_j3v, hbox, hn6, nck_pv, fad_pv, ld1_pv _ _ _ g1, hsl, hpl, L2, hcut, eql_int]
theorem Like_runs {G : Oracle} {H : Heap} {o : Own} {p q : Nat} {M : MV} (hm : MemR H o p M) (hx : RefR H o q M) :
    ∃ H' o', run G 100000 33 [pv p, pv q] H = some (.bool true, H') ∧ MemR H' o' p M ∧ RefR H' o' q M ∧ Fr H o H' o' [] := by
  rw [F33_eq]
  obtain ⟨s, H1, o1, e1, s1, f1⟩ := Cells_runs (G := G) hm (-2) 99997
  have m1 := hm.fr f1 (by simp)
  have x1 := hx.fr f1 (by simp)
  obtain ⟨s2, ty2, g2, i2⟩ := hx.open
  obtain ⟨s3, ty3, g3, i3⟩ := x1.open
  have heq : s2 = s3 ∧ ty2 = ty3 := by
    have hl := hx.lt
    have := f1.same q hl (by simp)
    rw [g2, g3] at this
    simp only [Option.some.injEq, Blk.mk.injEq, List.cons.injEq] at this
    exact ⟨this.1.2.1.symm, this.2.1.symm⟩
  obtain ⟨rfl, rfl⟩ := heq
  have hsl := i3.1.len
  have hw := Words_runs (G := G) s1.ints.1 i3.1 hm.fits 34461
  have hu := Used_runs (G := G) m1 99998
  have hz := Size_runs (G := G) m1 99998
  obtain ⟨b, c, rfl⟩ := i3.1.isSlice
  refine ⟨H1, o1, ?_, m1, x1, f1⟩
  simp -implicitDefEqProofs [F33, e1, nck_pv, fad_pv, ld1_pv _ _ _ g2, ld1_pv _ _ _ g3, hw, hu, hz, slen_s, eql_int, pick_bool]
theorem plays_j2 {G : Oracle} {H : Heap} {o : Own} {p q : Nat} {M : MV} {v v0 v2 v6 v7 v9 v11 v40 v42 v50 v59 v67 v13 v77 v112 : Value} {L : List OpV} {i : Nat} (hm : MemR H o p M) (hx : RefR H o q M) (hpq : p ≠ q) (hmx : 0 ≤ M.max ∧ M.max ≤ 65536) (hle : (M.cs.length : Int) ≤ M.max)
    (hv : OpsR H o v L) (hi : i < L.length) (h200 : i < 200) (h100 : ∀ O, L[i]? = some O → O.w.length ≤ 100) :
    ∃ H' o' M', F6_j2 (run G 100000) 100000 [v0, v, v2, v6, v7, v9, v11, pv p, pv q, v40, v42, cv i, v50, v59, v67, v13, v77, v112] H =
      some (.normal, [v0, v, v2, v6, v7, v9, v11, pv p, pv q, v40, v42, cv ((i + 1 : Nat) : Int), v50, v59, v67, v13, v77, .bool false], H') ∧ MemR H' o' p M' ∧ RefR H' o' q M' ∧ M'.max = M.max ∧ (M'.cs.length : Int) ≤ M.max ∧ Fr H o H' o' [p, q, -2] := by
  obtain ⟨b, B, O, W, hO, hOk, hW, hix, hb, _, hcell, hld⟩ := hv.idx hi
  obtain ⟨H1, o1, M1, e1, m1, x1, hmx1, hle1, f1⟩ := step_runs (G := G) hm hx hpq hOk hW hmx hle (h100 O hO)
  obtain ⟨s, ty, g, _⟩ := x1.open
  have hc := Count_runs (G := G) m1 99999
  have hd := Odd_runs (G := G) m1 99999
  have hr := Refused_runs (G := G) m1 99999
  have hw : IntKind.i64.wrap ((i : Int) + 1) = ((i + 1 : Nat) : Int) := by rw [w64 (by omega)]; omega
  have hl := hld H hb
  refine ⟨H1, o1, M1, ?_, m1, x1, hmx1, hle1, f1⟩
  simp -implicitDefEqProofs [-Int.natCast_add, F6_j2_v, F6_j2v, hix, hl, e1, not_bool, hc, hd, hr, nck_pv, fad_pv, ld1_pv _ _ _ g, neq_int, pick_bool, F6_j1_v, F6_j1v, add_int, hw, fin]
theorem buildI1 (a : Int) (H : Heap) : abuildSlice Try.prog 28 1 [(0, cv a)] H = some (.slice (some ⟨H.length, 0, none⟩) 1 1, H.new ⟨[cv a], 2, 1, false⟩) := by kernel_rfl
theorem ptX : Try.prog.underlying 45 = some (.pointer 51) := by kernel_rfl
/-- A round of the loop. -/
theorem plays_round {H : Heap} {o : Own} {p q : Nat} {M : MV} {v v0 v2 v7 v9 v11 v40 v42 v50 v59 v67 v13 v77 v112 : Value} {L : List OpV} {i : Nat} (hm : MemR H o p M) (hx : RefR H o q M) (hpq : p ≠ q) (hmx : 0 ≤ M.max ∧ M.max ≤ 65536) (hle : (M.cs.length : Int) ≤ M.max)
    (hv : OpsR H o v L) (hi : i < L.length) (h200 : i < 200) :
    (∃ H' o' M' p' e50 e59 e67 e13 e77 e112, F6_b0 (run (knownG ks) 100000) 100000 [v0, v, v2, .bool false, v7, v9, v11, pv p, pv q, v40, v42, cv i, v50, v59, v67, v13, v77, v112] H =
      some (.normal, [v0, v, v2, .bool false, v7, v9, v11, pv p', pv q, v40, v42, cv ((i + 1 : Nat) : Int), e50, e59, e67, e13, e77, e112], H') ∧ MemR H' o' p' M' ∧ RefR H' o' q M' ∧ p' ≠ q ∧ M'.max = M.max ∧ (M'.cs.length : Int) ≤ M.max ∧ OpsR H' o' v L) ∨
    (∃ e50 e59, F6_b0 (run (knownG ks) 100000) 100000 [v0, v, v2, .bool false, v7, v9, v11, pv p, pv q, v40, v42, cv i, v50, v59, v67, v13, v77, v112] H =
      some (.ret, [v0, v, v2, .bool true, v7, v9, v11, pv p, pv q, v40, v42, cv i, e50, e59, v67, v13, v77, v112], H)) := by
  have hk := fun H => known_runs 19 (by decide) 99999 H
  obtain ⟨b, B, O, W, hO, hOk, hW, hix, hb, hob, hcell, hld⟩ := hv.idx hi
  have hvl := hv.len
  have g1 : (i : Int) < L.length := by omega
  have g2 : (i : Int) < 200 := by omega
  have hWl := hW.1.len
  have c0 := hcell 0 (by omega)
  have c5 := hcell 5 (by omega)
  simp only [Nat.add_zero] at c0
  by_cases hw : (O.w.length : Int) > 100
  · right
    refine ⟨.bool true, .bool true, ?_⟩
    simp -implicitDefEqProofs [-gt_iff_lt, F6_b0_v, F6_b0v, hvl, lss_int, g1, g2, pick_bool, hix, fad_pv, ld1_pv _ _ _ hb, c5, hWl, gtr_int, hw, hk, fin]
  · left
    have h100 : ∀ O', L[i]? = some O' → O'.w.length ≤ 100 := fun O' h => by rw [hO] at h; cases h; omega
    have hcut := Cut_runs (G := knownG ks) 99999 O.kind 6 hOk.1 (by omega) H
    generalize O.kind % 6 = kd at hcut
    by_cases hk5 : kd = 5
    · subst hk5
      obtain ⟨H1, o1, e1, c1, f1⟩ := Clone_runs (G := knownG ks) hm 99998
      have m1 := hm.fr f1 (by simp)
      have x1 := hx.fr f1 (by simp)
      have hpl := hm.lt
      have hql := hx.lt
      have f2 : Fr H1 o1 (H1.new ⟨[cv 5], 2, 1, false⟩) (o1.up H1.length (-3)) [] := (Fr.refl _ _ _).new _ _
      have s2 : IntsR (H1.new ⟨[cv 5], 2, 1, false⟩) (o1.up H1.length (-3)) (-3) (.slice (some ⟨H1.length, 0, none⟩) 1 1) [5] := (Sli.new H1 o1 (-3) 2 [5]).ints
      obtain ⟨H3, o3, e3, m3, f3⟩ := Make_runs (G := knownG ks) (m1.fr f2 (by simp)) s2 (by omega) hmx hle (by simp) 99999
      have c3 := (c1.fr f2 (by simp)).fr f3 (nm2 (by omega))
      have x3 := (x1.fr f2 (by simp)).fr f3 (nm2 (fun e => hpq e.symm))
      obtain ⟨H4, e4, m4, f4⟩ := Write_runs (G := knownG ks) m3 1 77 99998
      have c4 := c3.fr f4 (nm2 (by omega))
      have x4 := x3.fr f4 (nm2 (fun e => hpq e.symm))
      have v4 := (((hv.fr f1 (by simp)).fr f2 (by simp)).fr f3 (nm (by omega) _)).fr f4 (nm (by omega) _)
      obtain ⟨H5, o5, M5, e5, m5, x5, hmx5, hle5, f5⟩ := plays_j2 (G := knownG ks) (v0 := v0) (v2 := v2) (v6 := .bool false) (v7 := v7) (v9 := v9) (v11 := v11) (v40 := v40) (v42 := v42) (v50 := .bool true) (v59 := .bool false) (v67 := .bool true) (v13 := pv H.length) (v77 := .bool false) (v112 := v112) c4 x4 (by omega) hmx hle v4 hi h200 h100
      refine ⟨H5, o5, M5, H.length, .bool true, .bool false, .bool true, pv H.length, .bool false, .bool false, ?_, m5, x5, by omega, hmx5, hle5, v4.fr f5 (by simp)⟩
      simp -implicitDefEqProofs [-gt_iff_lt, -Int.natCast_add, F6_b0_v, F6_b0v, hvl, lss_int, g1, g2, pick_bool, hix, fad_pv, ld1_pv _ _ _ hb, c5, c0, hWl, gtr_int, hw, hcut, eql_int, e1, buildI1, e3, e4, ptr_eql_nil _ ptM, e5]
    · obtain ⟨H5, o5, M5, e5, m5, x5, hmx5, hle5, f5⟩ := plays_j2 (G := knownG ks) (v0 := v0) (v2 := v2) (v6 := .bool false) (v7 := v7) (v9 := v9) (v11 := v11) (v40 := v40) (v42 := v42) (v50 := .bool true) (v59 := .bool false) (v67 := .bool false) (v13 := v13) (v77 := v77) (v112 := v112) hm hx hpq hmx hle hv hi h200 h100
      refine ⟨H5, o5, M5, p, .bool true, .bool false, .bool false, v13, v77, .bool false, ?_, m5, x5, hpq, hmx5, hle5, hv.fr f5 (by simp)⟩
      simp -implicitDefEqProofs [-gt_iff_lt, -Int.natCast_add, F6_b0_v, F6_b0v, hvl, lss_int, g1, g2, pick_bool, hix, fad_pv, ld1_pv _ _ _ hb, c5, c0, hWl, gtr_int, hw, hcut, eql_int, hk5, e5]
theorem MemPlays_run {H : Heap} {v : Value} {L : List OpV} (hv : OpsR H o0 v L) (a z : Int) (ha : W64 a) : ∃ n H', run (knownG ks) n 6 [cv a, v, cv z] H = some (.bool true, H') := by
  refine ⟨100001, ?_⟩
  rw [F6_eq]
  have hk := fun H => known_runs 19 (by decide) 99999 H
  have hcut := Cut_runs (G := knownG ks) 99999 a 60 ha (by omega) H
  have hb1 := Int.emod_nonneg a (show (60 : Int) ≠ 0 by omega)
  have hb2 := Int.emod_lt_of_pos a (show (0 : Int) < 60 by omega)
  generalize a % 60 = r at hcut hb1 hb2
  have hw1 : IntKind.i64.wrap (r - 2) = r - 2 := w64 (by omega)
  by_cases hr : 1 ≤ r - 2 ∧ r - 2 ≤ 65536
  · obtain ⟨H1, e1, m1, f1⟩ := New_runs (G := knownG ks) (H := H) o0 (r - 2) hr 99999
    obtain ⟨H2, e2, x2, f2⟩ := RNew_runs (G := knownG ks) (H := H1) (o0.up H.length H.length) (r - 2) hr 99999
    have m2 := m1.fr f2 (by simp)
    have v2 := (hv.fr f1 (by simp)).fr f2 (by simp)
    have hlt := m1.lt
    obtain ⟨r', hit, hne, hR⟩ := iter_go (step := F6_b0 (run (knownG ks) 100000) 100000)
      (Q := fun k vs H' => ∃ (i : Nat) (M : MV) (o' : Own) (p' : Nat) (d50 d59 d67 d13 d77 d112 : Value), i + k = 200 ∧ vs = [cv a, v, cv z, .bool false, cv (r - 2), cv 0, cv 0, pv p', pv H1.length, .bool false, .bool false, cv i, d50, d59, d67, d13, d77, d112] ∧ MemR H' o' p' M ∧ RefR H' o' H1.length M ∧ p' ≠ H1.length ∧ M.max = r - 2 ∧ (M.cs.length : Int) ≤ r - 2 ∧ OpsR H' o' v L)
      (R := fun x => (x.1 = .exit 0 ∧ ∃ (M : MV) (o' : Own) (p' : Nat) (i' d50 d59 d67 d13 d77 d112 : Value), x.2.1 = [cv a, v, cv z, .bool false, cv (r - 2), cv 0, cv 0, pv p', pv H1.length, .bool false, .bool false, i', d50, d59, d67, d13, d77, d112] ∧ MemR x.2.2 o' p' M ∧ RefR x.2.2 o' H1.length M) ∨
        (x.1 = .ret ∧ ∃ (d0 d1 d2 d7 d9 d11 d8 d10 d40 d42 d12 d50 d59 d67 d13 d77 d112 : Value), x.2.1 = [d0, d1, d2, .bool true, d7, d9, d11, d8, d10, d40, d42, d12, d50, d59, d67, d13, d77, d112]))
      (by
        rintro k vs H' ⟨i, M, o', p', d50, d59, d67, d13, d77, d112, hi, rfl, hm, hx, hne, hmx, hle, hv'⟩
        have hvl := hv'.len
        by_cases hil : i < L.length
        · by_cases hi2 : i < 200
          · rcases plays_round (v0 := cv a) (v2 := cv z) (v7 := cv (r - 2)) (v9 := cv 0) (v11 := cv 0) (v40 := .bool false) (v42 := .bool false) (v50 := d50) (v59 := d59) (v67 := d67) (v13 := d13) (v77 := d77) (v112 := d112) hm hx hne (by omega) (by omega) hv' hil hi2 with ⟨H3, o3, M3, p3, e50, e59, e67, e13, e77, e112, hst, m3, x3, hne3, hmx3, hle3, hv3⟩ | ⟨e50, e59, hst⟩
            · exact .inl ⟨_, _, k - 1, by omega, hst, i + 1, M3, o3, p3, _, _, _, _, _, _, by omega, rfl, m3, x3, hne3, by omega, by omega, hv3⟩
            · exact .inr ⟨_, hst, by simp, .inr ⟨rfl, _, _, _, _, _, _, _, _, _, _, _, _, _, _, _, _, _, rfl⟩⟩
          · have g1 : (i : Int) < L.length := by omega
            have g2 : ¬ (i : Int) < 200 := by omega
            refine .inr ⟨(.exit 0, [cv a, v, cv z, .bool false, cv (r - 2), cv 0, cv 0, pv p', pv H1.length, .bool false, .bool false, cv i, .bool false, d59, d67, d13, d77, d112], H'), ?_, by simp, .inl ⟨rfl, M, o', p', _, _, _, _, _, _, _, rfl, hm, hx⟩⟩
            simp -implicitDefEqProofs [F6_b0_v, F6_b0v, hvl, lss_int, g1, g2, pick_bool, fin]
        · have g1 : ¬ (i : Int) < L.length := by omega
          refine .inr ⟨(.exit 0, [cv a, v, cv z, .bool false, cv (r - 2), cv 0, cv 0, pv p', pv H1.length, .bool false, .bool false, cv i, .bool false, d59, d67, d13, d77, d112], H'), ?_, by simp, .inl ⟨rfl, M, o', p', _, _, _, _, _, _, _, rfl, hm, hx⟩⟩
          simp -implicitDefEqProofs [F6_b0_v, F6_b0v, hvl, lss_int, g1, pick_bool, fin])
      200 [cv a, v, cv z, .bool false, cv (r - 2), cv 0, cv 0, pv H.length, pv H1.length, .bool false, .bool false, cv (0 : Nat), undef, undef, undef, undef, undef, undef] H2
      ⟨0, MV.fresh (r - 2), _, _, _, _, _, _, _, _, rfl, rfl, m2, x2, by omega, rfl, (by simp [MV.fresh]; omega), v2⟩ 100000 (by omega)
    obtain ⟨x1, vs, H3⟩ := r'
    simp only at hR
    have hit' : iter 100000 (F6_b0 (run (knownG ks) 100000) 100000) [cv a, v, cv z, .bool false, cv (r - 2), cv 0, cv 0, pv H.length, pv H1.length, .bool false, .bool false, cv 0, undef, undef, undef, undef, undef, undef] H2 = some (x1, vs, H3) := hit
    rcases hR with ⟨rfl, M, o', p', i', d50, d59, d67, d13, d77, d112, rfl, m3, x3⟩ | ⟨rfl, d0, d1, d2, d7, d9, d11, d8, d10, d40, d42, d12, d50, d59, d67, d13, d77, d112, rfl⟩
    · obtain ⟨H4, o4, e4, m4, x4, f4⟩ := Like_runs (G := knownG ks) m3 x3
      have a4 := At_runs (G := knownG ks) m4 z 99999
      have b4 := RAt7_runs (G := knownG ks) x4 z 99999
      have c4 := Count_runs (G := knownG ks) m4 99999
      obtain ⟨s, ty, g, _⟩ := x4.open
      refine ⟨H4, ?_⟩
      simp -implicitDefEqProofs [F6, hcut, sub_int, hw1, e1, e2, ext_i, hk, not_bool, neq_int, pick_bool, ptr_eql_nil _ ptM, ptr_eql_nil _ ptX, bool_neq _ _ blT, hit', F6_j3_v, F6_j3v, e4, a4, b4, c4, nck_pv, fad_pv, ld1_pv _ _ _ g, eql_int]
    · refine ⟨H3, ?_⟩
      simp -implicitDefEqProofs [F6, hcut, sub_int, hw1, e1, e2, ext_i, hk, not_bool, neq_int, pick_bool, ptr_eql_nil _ ptM, ptr_eql_nil _ ptX, bool_neq _ _ blT, hit', resK, Env.get]
  · have e1 := New_bad (G := knownG ks) (H := H) (r - 2) hr 99999
    have e2 := RNew_bad (G := knownG ks) (H := H) (r - 2) hr 99999
    refine ⟨H, ?_⟩
    simp -implicitDefEqProofs [F6, hcut, sub_int, hw1, e1, e2, ext_i, hk, not_bool, neq_int, pick_bool, ptr_eql_nil _ ptM, ptr_eql_nil _ ptX, bool_neq _ _ blT]
end Go.Proofs.Ytpenlcigickkbaa.Fun
namespace Go.Proofs.Ytpenlcigickkbaa.Pure
open Go.RowKit Go.Proofs.YtpenlcigickkbaaA.Am Fun
theorem MemPlays_law : Law Try.prog 6 [3, 44, 3] := law_of fun H args hr hi => by
  obtain ⟨v0, _, rfl, h0, v1, _, rfl, h1, v2, _, rfl, h2, rfl⟩ := hi
  obtain ⟨a, rfl, ha⟩ := h0.int (show Try.prog.underlying 3 = _ from by kernel_rfl)
  obtain ⟨L, hv⟩ := opsIn (f := 5) (h1.one (by rw [(show Try.prog.underlying 44 = some (.slice 42) from by kernel_rfl)]; simp))
  obtain ⟨z, rfl, _⟩ := h2.int (show Try.prog.underlying 3 = _ from by kernel_rfl)
  exact MemPlays_run hv a z ha
end Go.Proofs.Ytpenlcigickkbaa.Pure
