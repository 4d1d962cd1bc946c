/- MapNear over the abstract machine. -/
import Derived.Test.YtdgolnenpnkjbaaFun3
import Derived.Test.YtdgolnenpnkjbaaFunMapNear
import Derived.Test.YtdgolnenpnkjbaaMapFill
import Derived.Test.YtdgolnenpnkjbaaFunMapNear
namespace Go.Proofs.Ytdgolnenpnkjbaa.Fun
open Go Go.RowKit Go.Proofs.YtdgolnenpnkjbaaA.Am
set_option linter.unusedVariables false
set_option linter.unusedSimpArgs false
set_option linter.unnecessarySimpa false
/-! near a key -/
theorem at_place {l : PL} (ha : Asc (keysOf l)) {k : Int} {x : Int × Int} (hx : x ∈ l) : (x.1 < k → ∃ j, j < mplc l k ∧ j < l.length ∧ (l.getD j (0, 0)) = x) ∧ (k ≤ x.1 → ∃ j, mplc l k ≤ j ∧ j < l.length ∧ (l.getD j (0, 0)) = x) := by
  obtain ⟨j, hj, rfl⟩ := List.getElem_of_mem hx
  have e : l.getD j (0, 0) = l[j] := by rw [List.getD_eq_getElem?_getD, List.getElem?_eq_getElem hj]; rfl
  have hj' : j < (keysOf l).length := by simpa using hj
  have ek : (keysOf l)[j] = l[j].1 := by simp
  refine ⟨fun h => ⟨j, ?_, hj, e⟩, fun h => ⟨j, ?_, hj, e⟩⟩
  · rcases Nat.lt_or_ge j (mplc l k) with g | g
    · exact g
    · have hp : plc ilt (keysOf l) k < (keysOf l).length := by unfold mplc at g; omega
      have h2 := plc_hi hp
      unfold mplc at g
      rcases Nat.lt_or_eq_of_le g with g | g
      · have := List.pairwise_iff_getElem.1 ha _ j hp hj' g
        omega
      · simp only [g] at h2; omega
  · rcases Nat.lt_or_ge j (mplc l k) with g | g
    · have := plc_lo hj' g
      omega
    · exact g
theorem rise {l : PL} (ha : Asc (keysOf l)) {i j : Nat} (hij : i ≤ j) (hj : j < l.length) : (l.getD i (0, 0)).1 ≤ (l.getD j (0, 0)).1 := by
  have e1 : l.getD i (0, 0) = l[i] := by rw [List.getD_eq_getElem?_getD, List.getElem?_eq_getElem (by omega)]; rfl
  have e2 : l.getD j (0, 0) = l[j] := by rw [List.getD_eq_getElem?_getD, List.getElem?_eq_getElem hj]; rfl
  rw [e1, e2]
  rcases Nat.lt_or_eq_of_le hij with g | g
  · have := List.pairwise_iff_getElem.1 ha i j (by simp; omega) (by simpa using hj) g
    simp only [List.getElem_map] at this
    omega
  · subst g; exact Int.le_refl _
theorem mhas_iff {l : PL} {k : Int} : mhas l k = true ↔ mplc l k < l.length ∧ (l.getD (mplc l k) (0, 0)).1 = k := by
  refine ⟨mhas_lt, fun ⟨h1, h2⟩ => ?_⟩
  unfold mhas hasK
  rw [decide_eq_true_eq]
  change (keysOf l)[mplc l k]? = some k
  rw [List.getElem?_map, List.getElem?_eq_getElem h1]
  rw [List.getD_eq_getElem?_getD, List.getElem?_eq_getElem h1] at h2
  simpa using h2
theorem place_ge {l : PL} {k : Int} (h : mplc l k < l.length) : k ≤ (l.getD (mplc l k) (0, 0)).1 := by
  have hp : plc ilt (keysOf l) k < (keysOf l).length := by simpa [mplc] using h
  have h2 := plc_hi hp
  simp only [List.getElem_map] at h2
  rw [List.getD_eq_getElem?_getD, List.getElem?_eq_getElem h]
  exact h2
theorem place_lt {l : PL} {k : Int} {j : Nat} (h : j < mplc l k) : (l.getD j (0, 0)).1 < k := by
  have hle := mplc_le l k
  have hj : j < (keysOf l).length := by simp; omega
  have h2 := plc_lo hj h
  simp only [List.getElem_map] at h2
  rw [List.getD_eq_getElem?_getD, List.getElem?_eq_getElem (by omega)]
  exact h2
theorem mpair_in {l : PL} {j : Nat} (h : j < l.length) : mpair l j = ((l.getD j (0, 0)).1, (l.getD j (0, 0)).2, true) := by
  unfold mpair; rw [if_pos (by omega), Int.toNat_natCast]
theorem mpair_out {l : PL} {a : Int} (h : ¬ (0 ≤ a ∧ a < l.length)) : mpair l a = (0, 0, false) := by
  unfold mpair; rw [if_neg h]
theorem floor_is {l : PL} (ha : Asc (keysOf l)) (k : Int) : ∃ a v ok, mfloor l k = (a, v, ok) ∧ (ok = true → a ≤ k) ∧ (mhas l k = true ↔ ok = true ∧ a = k) ∧ ∀ x ∈ l, x.1 ≤ k → ok = true ∧ x.1 ≤ a := by
  unfold mfloor
  cases hc : mhas l k with
  | true =>
    obtain ⟨h1, h2⟩ := mhas_lt hc
    refine ⟨_, _, _, mpair_in h1, fun _ => by omega, by simp only [h2, and_self], fun x hx hk => ⟨rfl, by omega⟩⟩
  | false =>
    have hno : ¬ (mplc l k < l.length ∧ (l.getD (mplc l k) (0, 0)).1 = k) := fun h => by rw [mhas_iff.2 h] at hc; cases hc
    have hle := mplc_le l k
    have hmem : ∀ x ∈ l, x.1 ≤ k → ∃ j, j < mplc l k ∧ j < l.length ∧ (l.getD j (0, 0)) = x := by
      intro x hx hk
      rcases Int.lt_or_eq_of_le hk with g | g
      · exact (at_place ha hx).1 g
      · obtain ⟨j, h1, h2, h3⟩ := (at_place ha hx (k := k)).2 (by omega)
        exfalso
        have h4 := rise ha h1 h2
        have h5 := place_ge (l := l) (k := k) (by omega)
        rw [h3] at h4
        exact hno ⟨by omega, by omega⟩
    simp only [Bool.false_eq_true, if_false]
    by_cases h0 : mplc l k = 0
    · refine ⟨0, 0, false, mpair_out (by omega), by simp, by simp, fun x hx hk => ?_⟩
      obtain ⟨j, h1, _⟩ := hmem x hx hk
      omega
    · obtain ⟨m, hm⟩ : ∃ m, mplc l k = m + 1 := ⟨mplc l k - 1, by omega⟩
      have e : ((mplc l k : Int) - 1) = (m : Int) := by omega
      have hlt := place_lt (l := l) (k := k) (j := m) (by omega)
      rw [e]
      refine ⟨_, _, _, mpair_in (by omega), fun _ => by omega, ?_, fun x hx hk => ?_⟩
      · constructor
        · intro h; cases h
        · rintro ⟨_, h⟩; omega
      · obtain ⟨j, h1, h2, h3⟩ := hmem x hx hk
        have := rise ha (show j ≤ m by omega) (by omega)
        rw [h3] at this
        exact ⟨rfl, this⟩
theorem ceil_is {l : PL} (ha : Asc (keysOf l)) (k : Int) : ∃ a v ok, mceil l k = (a, v, ok) ∧ (ok = true → k ≤ a) ∧ (mhas l k = true ↔ ok = true ∧ a = k) ∧ ∀ x ∈ l, k ≤ x.1 → ok = true ∧ a ≤ x.1 := by
  unfold mceil
  by_cases h : mplc l k < l.length
  · have h1 := place_ge h
    refine ⟨_, _, _, mpair_in h, fun _ => h1, by rw [mhas_iff]; simp [h], fun x hx hk => ?_⟩
    obtain ⟨j, g1, g2, g3⟩ := (at_place ha hx (k := k)).2 hk
    have := rise ha g1 g2
    rw [g3] at this
    exact ⟨rfl, this⟩
  · refine ⟨0, 0, false, mpair_out (by omega), by simp, by rw [mhas_iff]; simp; intro h2; omega, fun x hx hk => ?_⟩
    obtain ⟨j, g1, g2, g3⟩ := (at_place ha hx (k := k)).2 hk
    omega
theorem blT : Try.prog.underlying 4 = some .bool := by kernel_rfl
section
variable {H : Heap}
theorem MapNear_run {v : Value} {keys : List Int} (hv : IntsR H o0 (-1) v keys) (k : Int) : ∃ n H', run KG n 3 [v, cv k] H = some (.bool true, H') := by
  refine ⟨100001, ?_⟩
  rw [F3_eq]
  have hb0 := box1 2 (cv k) H rfl rfl
  obtain ⟨H1, e1⟩ : ∃ x, x = H.new ⟨[cv k], 2, 1, false⟩ := ⟨_, rfl⟩
  rw [← e1] at hb0
  obtain ⟨H2, e2⟩ : ∃ x, x = H1.new ⟨[.bool false], 4, 1, false⟩ := ⟨_, rfl⟩
  have l1 : H1.length = H.length + 1 := by rw [e1, new_len]
  have l2 : H2.length = H.length + 2 := by rw [e2, new_len, l1]
  have g0 : H2.get H.length = some ⟨[cv k], 2, 1, false⟩ := by rw [e2, get_new_lt (by omega), e1]; exact get_new
  have g1 : H2.get (H.length + 1) = some ⟨[.bool false], 4, 1, false⟩ := by
    have := get_new (H := H1) (c := ⟨[.bool false], 4, 1, false⟩); rw [l1, ← e2] at this; exact this
  have f2 : Fr H o0 H2 (o0.from H.length (-2)) [] := by
    refine ⟨fun j hj _ => by rw [e2, slot_new (by omega), e1, slot_new hj], fun j hj => from_lt hj, by omega⟩
  have hv2 := hv.fr f2 (by simp)
  obtain ⟨H3, o3, r3, m3, f3⟩ := fill_runs (n := 99995) hv2 (by omega)
  rw [l2] at r3 m3 f3
  have kn : ∀ H, run KG 100000 10 [] H = some (.bool true, H) := fun H => known_run 99999 H
  have ha := fillTo_asc keys (min keys.length 200)
  generalize fillTo keys (min keys.length 200) = l at *
  obtain ⟨a, va, ok, hfl, fa1, fa2, fa3⟩ := floor_is ha k
  obtain ⟨b, vb, is, hcl, cb1, cb2, cb3⟩ := ceil_is ha k
  have g03 : H3.get H.length = some ⟨[cv k], 2, 1, false⟩ := by rw [f3.same _ (by omega) (by rw [from_ge (Nat.le_refl _)]; simp; omega)]; exact g0
  have g13 : H3.get (H.length + 1) = some ⟨[.bool false], 4, 1, false⟩ := by rw [f3.same _ (by omega) (by rw [from_ge (by omega)]; simp; omega)]; exact g1
  have l3 := f3.size
  have r4 := Floor_runs (G := KG) (n := 99995) m3 k (by omega)
  rw [hfl] at r4
  obtain ⟨A, ta1, ta2, ga1, ga2, la, sa⟩ := two_boxes H3 (cv 0) (.bool false) (cv a) (.bool ok) 2 4 ⟨rfl, rfl, rfl⟩ ⟨rfl, rfl, rfl⟩
  have fA : Fr H3 o3 A (o3.from H3.length (-2)) [] := ⟨fun j hj _ => sa j hj, fun j hj => from_lt hj, by omega⟩
  have mA := m3.fr fA (by simp)
  have r5 := Ceiling_runs (G := KG) (n := 99995) mA k (by omega)
  rw [hcl] at r5
  obtain ⟨B, tb1, tb2, gb1, gb2, lb, sb⟩ := two_boxes A (cv 0) (.bool false) (cv b) (.bool is) 2 4 ⟨rfl, rfl, rfl⟩ ⟨rfl, rfl, rfl⟩
  have fB : Fr A (o3.from H3.length (-2)) B ((o3.from H3.length (-2)).from A.length (-2)) [] := ⟨fun j hj _ => sb j hj, fun j hj => from_lt hj, by omega⟩
  have mB := mA.fr fB (by simp)
  have r6 := Get_runs (G := KG) (n := 99995) mB k (by omega)
  have q0 : A.get H.length = some ⟨[cv k], 2, 1, false⟩ := by rw [get_slot (sa _ (by omega))]; exact g03
  have q0' : B.get H.length = some ⟨[cv k], 2, 1, false⟩ := by rw [get_slot (sb _ (by omega))]; exact q0
  have q1 : B.get (H.length + 1) = some ⟨[.bool false], 4, 1, false⟩ := by rw [get_slot (sb _ (by omega)), get_slot (sa _ (by omega))]; exact g13
  have q2 : B.get H3.length = some ⟨[cv a], 2, 1, false⟩ := by rw [get_slot (sb _ (by omega))]; exact ga1
  have q3 : B.get (H3.length + 1) = some ⟨[.bool ok], 4, 1, false⟩ := by rw [get_slot (sb _ (by omega))]; exact ga2
  have r7 := All_runs (G := KG) (n := 99998) (H.length + 2) B
  obtain ⟨C, eC⟩ : ∃ x, x = fromH B (H.length + 2) 0 (fnv 37 #[]) := ⟨_, rfl⟩
  have fC := fromH_fr B ((o3.from H3.length (-2)).from A.length (-2)) (H.length + 2) 0 (fnv 37 #[]) (-3)
  have cm := fromH_m B (H.length + 2) 0 (fnv 37 #[])
  have ca := fromH_a B (H.length + 2) 0 (fnv 37 #[])
  have cf := fromH_f B (H.length + 2) 0 (fnv 37 #[])
  have lC := fromH_len B (H.length + 2) 0 (fnv 37 #[])
  rw [← eC] at r7 fC cm ca cf lC
  have up : ∀ j c, B.get j = some c → C.get j = some c := fun j c h => by rw [fC.same j (get_lt h) (by simp)]; exact h
  have mC := mB.fr fC (by simp)
  have hml := mB.fits
  obtain ⟨s, H', hrng, hend⟩ := from_rng (G := KG) (n := 99999) (L := F3_L0 [v, cv k, pv (H.length + 1), .bool false, pv (H.length + 2), pv H.length, pv (H3.length + 1), pv H3.length, pv (A.length + 1), pv A.length, .bool (mhas l k), .bool false, fromG B, undef, undef, undef])
    (J := fun _ H' => H' = C.newO (.loop (F3_L0 [v, cv k, pv (H.length + 1), .bool false, pv (H.length + 2), pv H.length, pv (H3.length + 1), pv H3.length, pv (A.length + 1), pv A.length, .bool (mhas l k), .bool false, fromG B, undef, undef, undef]) .ready)) (R := fun _ _ => False) (mb := fun _ => true) (ps := []) (i0 := 0)
    mC.v (by simp) (by simpa using hml) (by omega) (by simp) cm cf ca (by simp) (by simp) (fun H' o' _ x _ => all_may x H') (fun i H' e => by subst e; exact ⟨⟨_, (Fr.refl _ _ _).newO _ 0⟩, oth_newO⟩) (fun _ _ h => h.elim) rfl (Nat.zero_le _)
    (by
      rintro i H' kx vx hk hv' _ _ rfl
      refine .inl ⟨_, ?_, rfl⟩
      obtain ⟨x, hx, rfl⟩ : ∃ x, x ∈ l ∧ kx = cv x.1 := by
        rw [List.getElem?_map, List.getElem?_map] at hk
        cases hl : l[i]? with
        | none => rw [hl] at hk; cases hk
        | some x => rw [hl] at hk; cases hk; exact ⟨x, List.mem_of_getElem? hl, rfl⟩
      rw [F3_R0_eq (h := oth_newO)]
      have ot := oth_newO (H := C) (c := .loop (F3_L0 [v, cv k, pv (H.length + 1), .bool false, pv (H.length + 2), pv H.length, pv (H3.length + 1), pv H3.length, pv (A.length + 1), pv A.length, .bool (mhas l k), .bool false, fromG B, undef, undef, undef]) .ready)
      have w0 := ld1_pv _ 0 _ (get_round (c := .loop (F3_L0 [v, cv k, pv (H.length + 1), .bool false, pv (H.length + 2), pv H.length, pv (H3.length + 1), pv H3.length, pv (A.length + 1), pv A.length, .bool (mhas l k), .bool false, fromG B, undef, undef, undef]) .ready) (d := .loop (F3_L0 [v, cv k, pv (H.length + 1), .bool false, pv (H.length + 2), pv H.length, pv (H3.length + 1), pv H3.length, pv (A.length + 1), pv A.length, .bool (mhas l k), .bool false, fromG B, undef, undef, undef]) .busy) (up _ _ q0') rfl)
      have w2 := ld1_pv _ 0 _ (get_round (c := .loop (F3_L0 [v, cv k, pv (H.length + 1), .bool false, pv (H.length + 2), pv H.length, pv (H3.length + 1), pv H3.length, pv (A.length + 1), pv A.length, .bool (mhas l k), .bool false, fromG B, undef, undef, undef]) .ready) (d := .loop (F3_L0 [v, cv k, pv (H.length + 1), .bool false, pv (H.length + 2), pv H.length, pv (H3.length + 1), pv H3.length, pv (A.length + 1), pv A.length, .bool (mhas l k), .bool false, fromG B, undef, undef, undef]) .busy) (up _ _ q2) rfl)
      have w3 := ld1_pv _ 0 _ (get_round (c := .loop (F3_L0 [v, cv k, pv (H.length + 1), .bool false, pv (H.length + 2), pv H.length, pv (H3.length + 1), pv H3.length, pv (A.length + 1), pv A.length, .bool (mhas l k), .bool false, fromG B, undef, undef, undef]) .ready) (d := .loop (F3_L0 [v, cv k, pv (H.length + 1), .bool false, pv (H.length + 2), pv H.length, pv (H3.length + 1), pv H3.length, pv (A.length + 1), pv A.length, .bool (mhas l k), .bool false, fromG B, undef, undef, undef]) .busy) (up _ _ q3) rfl)
      have w4 := ld1_pv _ 0 _ (get_round (c := .loop (F3_L0 [v, cv k, pv (H.length + 1), .bool false, pv (H.length + 2), pv H.length, pv (H3.length + 1), pv H3.length, pv (A.length + 1), pv A.length, .bool (mhas l k), .bool false, fromG B, undef, undef, undef]) .ready) (d := .loop (F3_L0 [v, cv k, pv (H.length + 1), .bool false, pv (H.length + 2), pv H.length, pv (H3.length + 1), pv H3.length, pv (A.length + 1), pv A.length, .bool (mhas l k), .bool false, fromG B, undef, undef, undef]) .busy) (up _ _ gb1) rfl)
      have w5 := ld1_pv _ 0 _ (get_round (c := .loop (F3_L0 [v, cv k, pv (H.length + 1), .bool false, pv (H.length + 2), pv H.length, pv (H3.length + 1), pv H3.length, pv (A.length + 1), pv A.length, .bool (mhas l k), .bool false, fromG B, undef, undef, undef]) .ready) (d := .loop (F3_L0 [v, cv k, pv (H.length + 1), .bool false, pv (H.length + 2), pv H.length, pv (H3.length + 1), pv H3.length, pv (A.length + 1), pv A.length, .bool (mhas l k), .bool false, fromG B, undef, undef, undef]) .busy) (up _ _ gb2) rfl)
      have en := endR_eq (e := .normal) (oth_putO (d := .loop (F3_L0 [v, cv k, pv (H.length + 1), .bool false, pv (H.length + 2), pv H.length, pv (H3.length + 1), pv H3.length, pv (A.length + 1), pv A.length, .bool (mhas l k), .bool false, fromG B, undef, undef, undef]) .busy) ot)
      have bk := putO_back (d := .loop (F3_L0 [v, cv k, pv (H.length + 1), .bool false, pv (H.length + 2), pv H.length, pv (H3.length + 1), pv H3.length, pv (A.length + 1), pv A.length, .bool (mhas l k), .bool false, fromG B, undef, undef, undef]) .busy) ot
      simp only [LState.of] at en
      rw [bk] at en
      generalize F3_L0 [v, cv k, pv (H.length + 1), .bool false, pv (H.length + 2), pv H.length, pv (H3.length + 1), pv H3.length, pv (A.length + 1), pv A.length, .bool (mhas l k), .bool false, fromG B, undef, undef, undef] = L at *
      unfold F3_R0
      by_cases h1 : x.1 ≤ k
      · obtain ⟨h2, h3⟩ := fa3 x hx h1
        have h3' : ¬ x.1 > a := by omega
        by_cases h4 : x.1 ≥ k
        · obtain ⟨h5, h6⟩ := cb3 x hx h4
          have h6' : ¬ x.1 < b := by omega
          subst h2; subst h5
          simp -implicitDefEqProofs [-gt_iff_lt, -ge_iff_le, begR_eq ot, w0, w2, w3, w4, w5, leq_int, geq_int, gtr_int, lss_int, h1, h3', h4, h6', not_bool, pick_bool, en, AExit.on]
        · subst h2
          simp -implicitDefEqProofs [-gt_iff_lt, -ge_iff_le, begR_eq ot, w0, w2, w3, w4, w5, leq_int, geq_int, gtr_int, lss_int, h1, h3', h4, not_bool, pick_bool, en, AExit.on]
      · have h4 : x.1 ≥ k := by omega
        obtain ⟨h5, h6⟩ := cb3 x hx h4
        have h6' : ¬ x.1 < b := by omega
        subst h5
        simp -implicitDefEqProofs [-gt_iff_lt, -ge_iff_le, begR_eq ot, w0, w2, w3, w4, w5, leq_int, geq_int, gtr_int, lss_int, h1, h4, h6', not_bool, pick_bool, en, AExit.on])
  rcases hend with ⟨rfl, _, _, _, rfl, _⟩ | ⟨_, _, _, h, _⟩
  case inr => exact h.elim
  have dget : ((C.newO (.loop (F3_L0 [v, cv k, pv (H.length + 1), .bool false, pv (H.length + 2), pv H.length, pv (H3.length + 1), pv H3.length, pv (A.length + 1), pv A.length, .bool (mhas l k), .bool false, fromG B, undef, undef, undef]) .ready)).kill C.length).get (H.length + 1) = some ⟨[.bool false], 4, 1, false⟩ := by
    have h := up _ _ q1
    have hl := get_lt h
    rw [get_kill_ne (by omega), get_slot (slot_newO hl)]; exact h
  have ds := st_1 _ 0 (.bool true) _ dget rfl (by simp) rfl rfl rfl
  have dl := ld1_pv _ 0 _ (get_put (c := ⟨[.bool true], 4, 1, false⟩) dget)
  have t1 : ld1 (pv H3.length) B = some (cv a) := ld1_pv _ 0 _ q2
  have t2 : ld1 (pv (H3.length + 1)) B = some (.bool ok) := ld1_pv _ 0 _ q3
  have t3 : ld1 (pv A.length) B = some (cv b) := ld1_pv _ 0 _ gb1
  have t4 : ld1 (pv (A.length + 1)) B = some (.bool is) := ld1_pv _ 0 _ gb2
  have t5 : ld1 (pv H.length) B = some (cv k) := ld1_pv _ 0 _ q0'
  have t6 : ld1 (pv H.length) A = some (cv k) := ld1_pv _ 0 _ q0
  have t7 : ld1 (pv H.length) H3 = some (cv k) := ld1_pv _ 0 _ g03
  generalize C.newO (.loop (F3_L0 [v, cv k, pv (H.length + 1), .bool false, pv (H.length + 2), pv H.length, pv (H3.length + 1), pv H3.length, pv (A.length + 1), pv A.length, .bool (mhas l k), .bool false, fromG B, undef, undef, undef]) .ready) = D at *
  have d1 : ok = true → decide (a = k) = mhas l k := fun h => by
    rw [Bool.eq_iff_iff, decide_eq_true_iff, fa2]; simp [h]
  have d2 : is = true → decide (b = k) = mhas l k := fun h => by
    rw [Bool.eq_iff_iff, decide_eq_true_iff, cb2]; simp [h]
  have d3 : ok = false → mhas l k = false := fun h => by
    cases hm : mhas l k with
    | false => rfl
    | true => rw [(fa2.1 hm).1] at h; cases h
  have d4 : is = false → mhas l k = false := fun h => by
    cases hm : mhas l k with
    | false => rfl
    | true => rw [(cb2.1 hm).1] at h; cases h
  generalize mhas l k = t at *
  refine ⟨(D.kill C.length).put (H.length + 1) ⟨[.bool true], 4, 1, false⟩, ?_⟩
  cases ok with
  | false =>
    obtain rfl := d3 rfl
    cases is with
    | false =>
      simp -implicitDefEqProofs [-gt_iff_lt, -ge_iff_le, F3, hb0, newBlk, new_len, l1, ← e2, kn, not_bool, r3, t7, r4, ext_i, ta1, ta2, t6, r5, tb1, tb2, t5, r6, t1, t2, t3, t4, gtr_int, lss_int, eql_int, bool_neq _ _ blT, pick_bool, r7, hrng, F3_j0_v, F3_j0v, ds, dl]
    | true =>
      have c1 := d2 rfl
      have c2 : ¬ b < k := by have := cb1 rfl; omega
      simp -implicitDefEqProofs [-gt_iff_lt, -ge_iff_le, -decide_eq_false_iff_not, F3, hb0, newBlk, new_len, l1, ← e2, kn, not_bool, r3, t7, r4, ext_i, ta1, ta2, t6, r5, tb1, tb2, t5, r6, t1, t2, t3, t4, gtr_int, lss_int, eql_int, bool_neq _ _ blT, pick_bool, r7, hrng, F3_j0_v, F3_j0v, ds, dl, c1, c2]
  | true =>
    have a1 := d1 rfl
    have a2 : ¬ a > k := by have := fa1 rfl; omega
    cases is with
    | false =>
      obtain rfl := d4 rfl
      simp -implicitDefEqProofs [-gt_iff_lt, -ge_iff_le, -decide_eq_false_iff_not, F3, hb0, newBlk, new_len, l1, ← e2, kn, not_bool, r3, t7, r4, ext_i, ta1, ta2, t6, r5, tb1, tb2, t5, r6, t1, t2, t3, t4, gtr_int, lss_int, eql_int, bool_neq _ _ blT, pick_bool, r7, hrng, F3_j0_v, F3_j0v, ds, dl, a1, a2]
    | true =>
      have c1 := d2 rfl
      have c2 : ¬ b < k := by have := cb1 rfl; omega
      simp -implicitDefEqProofs [-gt_iff_lt, -ge_iff_le, -decide_eq_false_iff_not, F3, hb0, newBlk, new_len, l1, ← e2, kn, not_bool, r3, t7, r4, ext_i, ta1, ta2, t6, r5, tb1, tb2, t5, r6, t1, t2, t3, t4, gtr_int, lss_int, eql_int, bool_neq _ _ blT, pick_bool, r7, hrng, F3_j0_v, F3_j0v, ds, dl, a1, a2, c1, c2]
end
end Go.Proofs.Ytdgolnenpnkjbaa.Fun
namespace Go.Proofs.Ytdgolnenpnkjbaa.Pure
open Go.RowKit Go.Proofs.YtdgolnenpnkjbaaA.Am Fun
theorem MapNear_law : Law Try.prog 3 [22, 2] := law_of fun H args hr hi => by
  obtain ⟨v0, _, rfl, h0, v1, _, rfl, h1, rfl⟩ := hi
  obtain ⟨w, hv, _, _⟩ := h0.ints slT (show Try.prog.underlying 2 = _ from by kernel_rfl) (by kernel_rfl)
  obtain ⟨a, rfl, ha⟩ := h1.int (show Try.prog.underlying 2 = _ from by kernel_rfl)
  exact MapNear_run hv a
end Go.Proofs.Ytdgolnenpnkjbaa.Pure
