/- MapPlays over the abstract machine. -/
import Derived.Test.YtdgolnenpnkjbaaFunMapPlays
import Derived.Test.YtdgolnenpnkjbaaMapRef
import Derived.Test.YtdgolnenpnkjbaaFunMapPlays
namespace Go.Proofs.Ytdgolnenpnkjbaa.Fun
open Go Go.RowKit Go.Proofs.YtdgolnenpnkjbaaA.Am
set_option linter.unusedVariables false
set_option linter.unusedSimpArgs false
set_option linter.unnecessarySimpa false
theorem blT : Try.prog.underlying 4 = some .bool := by kernel_rfl
theorem mput_place {l : PL} {k v : Int} : mplc (mput l k v) k = mplc l k ∧ mhas (mput l k v) k = true ∧ mget (mput l k v) k = v := by
  have hle := mplc_le l k
  have hlen : (l.take (mplc l k)).length = mplc l k := by simp; omega
  have hl2 : mplc l k < (mput l k v).length := by unfold mput; simp; omega
  have hg : (mput l k v).getD (mplc l k) (0, 0) = (k, v) := by
    unfold mput
    rw [List.getD_eq_getElem?_getD, List.getElem?_append_right (by omega), hlen]; simp
  have hp : mplc (mput l k v) k = mplc l k := by
    refine plc_is ilt (by simp; omega) (fun j hj hji => ?_) (fun h => ?_)
    · have e : (keysOf (mput l k v))[j] = (keysOf l)[j]'(by simp; omega) := by
        have h1 : (mput l k v)[j]? = l[j]? := by
          unfold mput
          rw [List.getElem?_append_left (by omega), List.getElem?_take, if_pos hji]
        have h2 : (keysOf (mput l k v))[j]? = (keysOf l)[j]? := by rw [List.getElem?_map, List.getElem?_map, h1]
        rw [List.getElem?_eq_getElem hj, List.getElem?_eq_getElem (by simp; omega)] at h2
        exact Option.some.inj h2
      rw [e]
      have := plc_lo (ks := keysOf l) (k := k) (j := j) (by simp; omega) hji
      simpa using this
    · have e : (keysOf (mput l k v))[mplc l k] = k := by
        have : (keysOf (mput l k v))[mplc l k]? = some k := by
          rw [List.getElem?_map, List.getElem?_eq_getElem hl2]
          rw [List.getD_eq_getElem?_getD, List.getElem?_eq_getElem hl2] at hg
          simp only [Option.getD_some] at hg
          rw [hg]; rfl
        rw [List.getElem?_eq_getElem h] at this
        exact Option.some.inj this
      rw [e]; simp
  have hh : mhas (mput l k v) k = true := by
    cases hc : mhas (mput l k v) k with
    | true => rfl
    | false => exact absurd ⟨by rw [hp]; exact hl2, by rw [hp, hg]⟩ (mhas_no hc)
  refine ⟨hp, hh, ?_⟩
  unfold mget
  rw [hh, if_pos rfl, hp, hg]
theorem MapR.sl {H H' : Heap} {o o' : Owner} {p : Nat} {l : PL} (h : MapR H o p l) (s : ∀ j, j < H.length → H'[j]? = H[j]?) (w : ∀ j, j < H.length → o' j = o j) (z : H.length ≤ H'.length) : MapR H' o' p l :=
  h.fr (ps := []) ⟨fun j hj _ => s j hj, w, z⟩ (by simp)
section
variable {H : Heap}
/-- One change, by both. -/
theorem play_one {o : Owner} {pm : Nat} {L : PL} {xs : Value} (hm : MapR H o pm L) (hx : SlP H o (-8) xs L) (hL : L.length < 400) (k v : Int) {v0 w v2 v6 d38 d50 d66 d13 d11 d14 d12 d80 d15 d16 d17 d18 d113 e1 e2 e3 e4 e5 e6 e7 e8 e9 e10 : Value} {i : Nat} (hi : i < 200) {zs : List Int} (hv : IntsR H o (-1) w zs) (hzi : i < zs.length) :
    ∃ H' o' xs' L' f38 f50 f66 f13 f11 f14 f12 f80 f15 f16 f17 f18 f113, F7_j3 (run KG 100000) 100000 [v0, w, v2, v6, cv i, d38, d50, xs, cv k, d66, pv pm, d13, d11, d14, d12, d80, d15, d16, d17, d18, d113, e1, e2, e3, e4, e5, e6, e7, e8, e9, e10] H =
      some (.normal, [v0, w, v2, v6, cv (i + 1 : Nat), f38, f50, xs', cv k, f66, pv pm, f13, f11, f14, f12, f80, f15, f16, f17, f18, f113, e1, e2, e3, e4, e5, e6, e7, e8, e9, e10], H') ∧ MapR H' o' pm L' ∧ SlP H' o' (-8) xs' L' ∧ L'.length ≤ L.length + 1 ∧ Fr H o H' o' [(pm : Int)] := by
  have hget := RGet_runs (G := KG) (n := 99998) hx (by omega) k (by omega)
  obtain ⟨q, off, b, hix, hb, hc⟩ := hv.1.idx hzi
  have hw3 : IntKind.i64.wrap ((i : Int) + 1) = ((i + 1 : Nat) : Int) := by rw [w64 (by omega)]; omega
  by_cases hz : (zs.getD i 0).tmod 4 = 0
  · obtain ⟨H3, r3, m3, f3⟩ := Del_runs (G := KG) (n := 99996) hm k (by omega)
    have x3 := hx.fr f3 (by simp)
    obtain ⟨xs', H4, r4, x4, s4, z4⟩ := RDel_runs (G := KG) (n := 99998) x3 (by omega) k (by omega)
    have f4 : Fr H3 o H4 (o.from H3.length (-8)) [] := ⟨fun j hj _ => s4 j hj, fun j hj => from_lt hj, z4⟩
    refine ⟨H4, o.from H3.length (-8), xs', mdel L k, d38, d50, .bool true, cv (mget L k), cv (mget L k), .bool (mhas L k), .bool (mhas L k), .bool false, d15, d16, d17, d18, d113, ?_, m3.fr f4 (by simp), x4 (-8), ?_, f3.tr0 f4⟩
    rotate_left
    · have := len_mdel L k; omega
    · simp -implicitDefEqProofs [-List.getD_eq_getElem?_getD, -Int.natCast_add, F7_j3_v, F7_j3v, hget, ext_i, hix, ld1_pv _ _ _ hb, hc, rem_int, hz, eql_int, r3, neq_int, bool_neq _ _ blT, pick_bool, r4, F7_j2_v, F7_j2v, add_int, hw3, fin]
  · obtain ⟨H3, o3, r3, m3, f3⟩ := Put_runs (n := 99996) hm k i (by omega) (by omega)
    have x3 := hx.fr f3 (by simp)
    have g3 := Get_runs (G := KG) (n := 99995) m3 k (by omega)
    obtain ⟨_, hh, hg⟩ := mput_place (l := L) (k := k) (v := i)
    rw [hh, hg] at g3
    obtain ⟨xs', H4, r4, x4, s4, z4⟩ := RPut_runs (G := KG) (n := 99998) x3 (by omega) k i (by omega)
    have f4 : Fr H3 o3 H4 (o3.from H3.length (-8)) [] := ⟨fun j hj _ => s4 j hj, fun j hj => from_lt hj, z4⟩
    refine ⟨H4, o3.from H3.length (-8), xs', mput L k i, d38, d50, .bool false, d13, cv (mget L k), d14, .bool (mhas L k), d80, cv (mget L k), .bool (mhas L k), cv i, .bool true, .bool false, ?_, m3.fr f4 (by simp), x4 (-8), ?_, f3.tr0 f4⟩
    rotate_left
    · rw [len_mput]; split <;> omega
    · simp -implicitDefEqProofs [-List.getD_eq_getElem?_getD, -Int.natCast_add, F7_j3_v, F7_j3v, hget, ext_i, hix, ld1_pv _ _ _ hb, hc, rem_int, hz, eql_int, r3, g3, not_bool, neq_int, bool_neq _ _ blT, pick_bool, r4, F7_j2_v, F7_j2v, add_int, hw3, fin]
theorem MapPlays_run {v w : Value} {keys zs : List Int} (hv : IntsR H o0 (-1) v keys) (hw : IntsR H o0 (-1) w zs) (hz : ∀ x ∈ zs, W64 x) (near : Int) : ∃ n H', run KG n 7 [v, w, cv near] H = some (.bool true, H') := by
  refine ⟨100001, ?_⟩
  rw [F7_eq]
  obtain ⟨H1, e1⟩ : ∃ x, x = H.new ⟨[.slice none 0 0, .slice none 0 0], 48, 1, false⟩ := ⟨_, rfl⟩
  have b1 := boxM 48 H
  rw [← e1] at b1
  have m1 : MapR H1 (Owner.up o0 H.length H.length) H.length [] := by rw [e1]; exact MapR.fresh H o0 _
  have f1 : Fr H o0 H1 (Owner.up o0 H.length H.length) [(H.length : Int)] := by rw [e1]; exact (Fr.refl _ _ _).new _ _
  have hvl := hv.1.len
  have hwl := hw.1.len
  obtain ⟨N, hN⟩ : ∃ N, N = min zs.length 200 := ⟨_, rfl⟩
  obtain ⟨r, hit, hne, r1, r2⟩ := iter_go (step := F7_b1 (run KG 100000) 100000)
    (Q := fun m vs H' => ∃ (i : Nat) (o' : Owner) (xs : Value) (L : PL) (d38 d50 d10 d66 d13 d11 d14 d12 d80 d15 d16 d17 d18 d113 : Value), i ≤ N ∧ m = N - i ∧ vs = [v, w, cv near, .bool false, cv i, d38, d50, xs, d10, d66, pv H.length, d13, d11, d14, d12, d80, d15, d16, d17, d18, d113, undef, undef, undef, undef, undef, undef, undef, undef, undef, undef] ∧
      MapR H' o' H.length L ∧ SlP H' o' (-8) xs L ∧ L.length ≤ i ∧ Fr H o0 H' o' [(H.length : Int)])
    (R := fun r => r.1 = .exit 0 ∧ ∃ (o' : Owner) (xs : Value) (L : PL) (d9 d38 d50 d10 d66 d13 d11 d14 d12 d80 d15 d16 d17 d18 d113 : Value), r.2.1 = [v, w, cv near, .bool false, d9, d38, d50, xs, d10, d66, pv H.length, d13, d11, d14, d12, d80, d15, d16, d17, d18, d113, undef, undef, undef, undef, undef, undef, undef, undef, undef, undef] ∧
      MapR r.2.2 o' H.length L ∧ SlP r.2.2 o' (-8) xs L ∧ L.length ≤ 200)
    (by
      rintro m vs H' ⟨i, o', xs, L, d38, d50, d10, d66, d13, d11, d14, d12, d80, d15, d16, d17, d18, d113, hi, rfl, rfl, hm, hx, hL, f⟩
      by_cases hlt : i < N
      · have h1 : (i : Int) < zs.length := by omega
        have h2 : (i : Int) < 200 := by omega
        have hik : i < zs.length := by omega
        have hw' := hw.fr f (by simp)
        obtain ⟨q, off, b, hix, hb, hc⟩ := hw'.1.idx hik
        have hzi : W64 (zs.getD i 0) := by rw [List.getD_eq_getElem?_getD, List.getElem?_eq_getElem hik]; exact hz _ (List.getElem_mem hik)
        have hcut := Cut_runs (G := KG) 99999 (zs.getD i 0) 31 hzi (by omega) H'
        have c0 := Int.emod_nonneg (zs.getD i 0) (show (31 : Int) ≠ 0 by omega)
        have c1 := Int.emod_lt_of_pos (zs.getD i 0) (show (0 : Int) < 31 by omega)
        have wk : IntKind.i64.wrap (zs.getD i 0 % 31 - 9) = zs.getD i 0 % 31 - 9 := w64 (by omega)
        by_cases h3 : i < keys.length
        · have h3' : (i : Int) < keys.length := by omega
          obtain ⟨q2, off2, b2, hix2, hb2, hc2⟩ := (hv.fr f (by simp)).1.idx h3
          obtain ⟨H2, o2, xs2, L2, f38, f50, f66, f13, f11, f14, f12, f80, f15, f16, f17, f18, f113, rr, m2, x2, hl2, f2⟩ := play_one hm hx (by omega) (keys.getD i 0) i (v0 := v) (v2 := cv near) (v6 := .bool false) (d38 := .bool true) (d50 := .bool true) (d66 := d66) (d13 := d13) (d11 := d11) (d14 := d14) (d12 := d12) (d80 := d80) (d15 := d15) (d16 := d16) (d17 := d17) (d18 := d18) (d113 := d113) (e1 := undef) (e2 := undef) (e3 := undef) (e4 := undef) (e5 := undef) (e6 := undef) (e7 := undef) (e8 := undef) (e9 := undef) (e10 := undef) (i := i) (by omega) hw' hik
          refine .inl ⟨_, H2, N - (i + 1), by omega, ?_, i + 1, o2, xs2, L2, f38, f50, cv (keys.getD i 0), f66, f13, f11, f14, f12, f80, f15, f16, f17, f18, f113, by omega, rfl, rfl, m2, x2, by omega, f.tr f2⟩
          simp -implicitDefEqProofs [-List.getD_eq_getElem?_getD, -Int.natCast_add, F7_b1_v, F7_b1v, hwl, hvl, lss_int, h1, h2, h3', pick_bool, hix, hix2, ld1_pv _ _ _ hb, ld1_pv _ _ _ hb2, hc, hc2, hcut, sub_int, wk, rr]
        · have h3' : ¬ (i : Int) < keys.length := by omega
          obtain ⟨H2, o2, xs2, L2, f38, f50, f66, f13, f11, f14, f12, f80, f15, f16, f17, f18, f113, rr, m2, x2, hl2, f2⟩ := play_one hm hx (by omega) (zs.getD i 0 % 31 - 9) i (v0 := v) (v2 := cv near) (v6 := .bool false) (d38 := .bool true) (d50 := .bool false) (d66 := d66) (d13 := d13) (d11 := d11) (d14 := d14) (d12 := d12) (d80 := d80) (d15 := d15) (d16 := d16) (d17 := d17) (d18 := d18) (d113 := d113) (e1 := undef) (e2 := undef) (e3 := undef) (e4 := undef) (e5 := undef) (e6 := undef) (e7 := undef) (e8 := undef) (e9 := undef) (e10 := undef) (i := i) (by omega) hw' hik
          refine .inl ⟨_, H2, N - (i + 1), by omega, ?_, i + 1, o2, xs2, L2, f38, f50, cv (zs.getD i 0 % 31 - 9), f66, f13, f11, f14, f12, f80, f15, f16, f17, f18, f113, by omega, rfl, rfl, m2, x2, by omega, f.tr f2⟩
          simp -implicitDefEqProofs [-List.getD_eq_getElem?_getD, -Int.natCast_add, F7_b1_v, F7_b1v, hwl, hvl, lss_int, h1, h2, h3', pick_bool, hix, ld1_pv _ _ _ hb, hc, hcut, sub_int, wk, rr]
      · have hiN : i = N := by omega
        refine .inr ⟨(.exit 0, [v, w, cv near, .bool false, cv i, .bool false, d50, xs, d10, d66, pv H.length, d13, d11, d14, d12, d80, d15, d16, d17, d18, d113, undef, undef, undef, undef, undef, undef, undef, undef, undef, undef], H'), ?_, by simp, rfl, o', xs, L, _, _, _, _, _, _, _, _, _, _, _, _, _, _, _, rfl, hm, hx, by omega⟩
        by_cases h1 : (i : Int) < zs.length
        · have h2 : ¬ (i : Int) < 200 := by omega
          simp -implicitDefEqProofs [F7_b1_v, F7_b1v, hwl, lss_int, h1, h2, pick_bool, fin]
        · simp -implicitDefEqProofs [F7_b1_v, F7_b1v, hwl, lss_int, h1, pick_bool, fin])
    (N - 0) [v, w, cv near, .bool false, cv (0 : Nat), undef, undef, .slice none 0 0, undef, undef, pv H.length, undef, undef, undef, undef, undef, undef, undef, undef, undef, undef, undef, undef, undef, undef, undef, undef, undef, undef, undef, undef] H1
    ⟨0, _, _, [], _, _, _, _, _, _, _, _, _, _, _, _, _, _, Nat.zero_le _, rfl, rfl, m1, .inl ⟨rfl, rfl⟩, Nat.le_refl _, f1⟩ 100000 (by omega)
  obtain ⟨e, vs, H'⟩ := r
  simp only at r1 r2
  obtain ⟨o', xs, L, d9, d38, d50, d10, d66, d13, d11, d14, d12, d80, d15, d16, d17, d18, d113, rfl, hm, hx, hL⟩ := r2
  subst r1
  simp only [Int.natCast_zero] at hit
  have kn : ∀ H, run KG 100000 10 [] H = some (.bool true, H) := fun H => known_run 99999 H
  have q1 := Floor_runs (G := KG) (n := 99995) hm near (by omega)
  obtain ⟨A, q2, sA, zA⟩ := RFloor_runs (G := KG) (n := 99998) hx (by omega) near (by omega)
  have fA : Fr H' o' A (o'.from H'.length (-2)) [] := ⟨fun j hj _ => sA j hj, fun j hj => from_lt hj, zA⟩
  obtain ⟨⟨a, c, ok⟩, hfl⟩ : ∃ t, mfloor L near = t := ⟨_, rfl⟩
  obtain ⟨⟨a', c', ok'⟩, hcl⟩ : ∃ t, mceil L near = t := ⟨_, rfl⟩
  rw [hfl] at q1 q2
  obtain ⟨B, eB⟩ : ∃ B, B = (A.new ⟨[cv 0, cv 0], 53, 1, false⟩).put A.length ⟨[cv a, cv c], 53, 1, false⟩ := ⟨_, rfl⟩
  have tB := st_2 A.length a c (A.new ⟨[cv 0, cv 0], 53, 1, false⟩) get_new
  rw [← eB] at tB
  have gB : B.get A.length = some ⟨[cv a, cv c], 53, 1, false⟩ := by rw [eB]; exact get_put get_new
  have fB : Fr A (o'.from H'.length (-2)) B ((o'.from H'.length (-2)).up A.length (-2)) [] := by rw [eB]; exact ((Fr.refl _ _ _).new _ _).put (fun h => by omega)
  have mB := (hm.fr fA (by simp)).fr fB (by simp)
  have xB := (hx.fr fA (by simp)).fr fB (by simp)
  have q3 := Ceiling_runs (G := KG) (n := 99995) mB near (by omega)
  obtain ⟨C, q4, sC, zC⟩ := RCeiling_runs (G := KG) (n := 99998) xB (by omega) near (by omega)
  rw [hcl] at q3 q4
  have fC : Fr B ((o'.from H'.length (-2)).up A.length (-2)) C (((o'.from H'.length (-2)).up A.length (-2)).from B.length (-2)) [] := ⟨fun j hj _ => sC j hj, fun j hj => from_lt hj, zC⟩
  obtain ⟨D, eD⟩ : ∃ B, B = (C.new ⟨[cv 0, cv 0], 53, 1, false⟩).put C.length ⟨[cv a', cv c'], 53, 1, false⟩ := ⟨_, rfl⟩
  have tD := st_2 C.length a' c' (C.new ⟨[cv 0, cv 0], 53, 1, false⟩) get_new
  rw [← eD] at tD
  have gD : D.get C.length = some ⟨[cv a', cv c'], 53, 1, false⟩ := by rw [eD]; exact get_put get_new
  have fD : Fr C (((o'.from H'.length (-2)).up A.length (-2)).from B.length (-2)) D ((((o'.from H'.length (-2)).up A.length (-2)).from B.length (-2)).up C.length (-2)) [] := by rw [eD]; exact ((Fr.refl _ _ _).new _ _).put (fun h => by omega)
  have mD := (mB.fr fC (by simp)).fr fD (by simp)
  have xD := (xB.fr fC (by simp)).fr fD (by simp)
  have gBD : D.get A.length = some ⟨[cv a, cv c], 53, 1, false⟩ := by
    have hl := get_lt gB
    rw [fD.same _ (by omega) (by simp), fC.same _ hl (by simp)]; exact gB
  obtain ⟨E, oE, q5, fE⟩ := same_runs (G := KG) (n := 99997) mD xD (by omega) (by omega)
  have owA : ((((o'.from H'.length (-2)).up A.length (-2)).from B.length (-2)).up C.length (-2)) A.length = -2 := by
    have hl := get_lt gB
    rw [up_ne (by omega), from_lt hl, up_self]
  have gE1 : E.get A.length = some ⟨[cv a, cv c], 53, 1, false⟩ := by rw [fE.same _ (get_lt gBD) (by rw [owA]; simp)]; exact gBD
  have gE2 : E.get C.length = some ⟨[cv a', cv c'], 53, 1, false⟩ := by rw [fE.same _ (get_lt gD) (by rw [up_self]; simp)]; exact gD
  refine ⟨E, ?_⟩
  simp -implicitDefEqProofs [F7, abM0, b1, hit, F7_j0_v, F7_j0v, q1, ext_i, q2, newBlk, tB, q3, q4, tD, kn, q5, pick_bool, fad_pv, ld1_pv _ _ _ gE1, ld1_pv _ _ _ gE2, eql_int, bool_eql _ _ blT]
end
end Go.Proofs.Ytdgolnenpnkjbaa.Fun
namespace Go.Proofs.Ytdgolnenpnkjbaa.Pure
open Go.RowKit Go.Proofs.YtdgolnenpnkjbaaA.Am Fun
theorem MapPlays_law : Law Try.prog 7 [22, 58, 2] := law_of fun H args hr hi => by
  obtain ⟨v0, _, rfl, h0, v1, _, rfl, h1, v2, _, rfl, h2, rfl⟩ := hi
  obtain ⟨w, hv, _, _⟩ := h0.ints slT (show Try.prog.underlying 2 = _ from by kernel_rfl) (by kernel_rfl)
  obtain ⟨z, hw, hz, _⟩ := h1.ints (show Try.prog.underlying 58 = some (.slice 3) from by kernel_rfl) (show Try.prog.underlying 3 = _ from by kernel_rfl) (by kernel_rfl)
  obtain ⟨a, rfl, ha⟩ := h2.int (show Try.prog.underlying 2 = _ from by kernel_rfl)
  exact MapPlays_run hv hw hz a
end Go.Proofs.Ytdgolnenpnkjbaa.Pure
