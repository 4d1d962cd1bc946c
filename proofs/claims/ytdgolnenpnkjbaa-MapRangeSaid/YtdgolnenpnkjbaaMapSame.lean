/- The laws' 'same' over the abstract machine. -/
import Derived.Test.YtdgolnenpnkjbaaFun0
import Derived.Test.YtdgolnenpnkjbaaFun3
import Derived.Test.YtdgolnenpnkjbaaMapFill
namespace Go.Proofs.Ytdgolnenpnkjbaa.Fun
open Go Go.RowKit Go.Proofs.YtdgolnenpnkjbaaA.Am
set_option linter.unusedVariables false
set_option linter.unusedSimpArgs false
set_option linter.unnecessarySimpa false
set_option maxRecDepth 4000
theorem slice_one {x : Value} (h : ∃ a n c, x = .slice a n c) : x.cells = #[x] ∧ known x = true ∧ oneCell x = true := by
  obtain ⟨a, n, c, rfl⟩ := h; exact ⟨rfl, rfl, rfl⟩
section
variable {G : Oracle} {H : Heap} {o : Owner} {p : Nat} {l : PL} {n : Nat}
theorem kl_at {i : Nat} {k : Value} (h : (cvs (keysOf l))[i]? = some k) : i < l.length ∧ k = cv (l.getD i (0, 0)).1 := by
  have hi : i < l.length := by have := (List.getElem?_eq_some_iff.1 h).1; simpa using this
  rw [keys_get hi] at h
  exact ⟨hi, (Option.some.inj h).symm⟩
theorem vl_at {i : Nat} {k : Value} (h : (cvs (valsOf l))[i]? = some k) : k = cv (l.getD i (0, 0)).2 := by
  have hi : i < l.length := by have := (List.getElem?_eq_some_iff.1 h).1; simpa using this
  rw [vals_get hi] at h
  exact (Option.some.inj h).symm
/-- A box's round. -/
theorem same_runs {x : Value} {q : Int} (h : MapR H o p l) (hx : SlP H o q x l) (hq : q ≠ -4) (hn : 65536 < n) :
    ∃ H' o', run G (n + 3) 32 [pv p, x] H = some (.bool true, H') ∧ Fr H o H' o' [-4] := by
  rw [F32_eq]
  obtain ⟨x1, x2, x3⟩ := slice_one (by obtain ⟨a, c, e⟩ := hx.isSlice; exact ⟨a, _, c, e⟩)
  have hb0 := box1 51 x H x1 x3
  obtain ⟨H1, e1⟩ : ∃ y, y = H.new ⟨[x], 51, 1, false⟩ := ⟨_, rfl⟩
  rw [← e1] at hb0
  obtain ⟨H2, e2⟩ : ∃ y, y = H1.new ⟨[.bool false], 4, 1, false⟩ := ⟨_, rfl⟩
  obtain ⟨H3, e3⟩ : ∃ y, y = H2.new ⟨[cv 0], 3, 1, false⟩ := ⟨_, rfl⟩
  have l1 : H1.length = H.length + 1 := by rw [e1, new_len]
  have l2 : H2.length = H.length + 2 := by rw [e2, new_len, l1]
  have l3 : H3.length = H.length + 3 := by rw [e3, new_len, l2]
  have s3 : ∀ j, j < H.length → H3[j]? = H[j]? := fun j hj => by rw [e3, slot_new (by omega), e2, slot_new (by omega), e1, slot_new hj]
  have g0 : H3.get H.length = some ⟨[x], 51, 1, false⟩ := by rw [e3, get_new_lt (by omega), e2, get_new_lt (by omega), e1]; exact get_new
  have g1 : H3.get (H.length + 1) = some ⟨[.bool false], 4, 1, false⟩ := by
    have := get_new (H := H1) (c := ⟨[.bool false], 4, 1, false⟩); rw [l1, ← e2] at this
    rw [e3, get_new_lt (by omega)]; exact this
  have g2 : H3.get (H.length + 2) = some ⟨[cv 0], 3, 1, false⟩ := by
    have := get_new (H := H2) (c := ⟨[cv 0], 3, 1, false⟩); rw [l2, ← e3] at this; exact this
  have st0 := st_1 (H.length + 2) 0 (cv 0) H3 g2 rfl (by simp) rfl rfl rfl
  have p0 : H3.put (H.length + 2) ⟨[cv 0], 3, 1, false⟩ = H3 := put_same g2
  simp only [List.set_cons_zero, p0] at st0
  let o3 : Owner := ((o.from H.length (-4)).up H.length (-5)).up (H.length + 1) (-5)
  have f3 : Fr H o H3 o3 [-4] := ⟨fun j hj _ => s3 j hj, fun j hj => by simp only [o3]; rw [up_ne (by omega), up_ne (by omega), from_lt hj], by omega⟩
  have hm3 := h.fr f3 (by simp)
  have r4 := All_runs (G := G) (n := n) p H3
  obtain ⟨C, eC⟩ : ∃ y, y = fromH H3 p 0 (fnv 37 #[]) := ⟨_, rfl⟩
  have fC := fromH_fr H3 o3 p 0 (fnv 37 #[]) (-3)
  have cm := fromH_m H3 p 0 (fnv 37 #[])
  have ca := fromH_a H3 p 0 (fnv 37 #[])
  have cf := fromH_f H3 p 0 (fnv 37 #[])
  have lC := fromH_len H3 p 0 (fnv 37 #[])
  rw [← eC] at r4 fC cm ca cf lC
  have mC := hm3.fr fC (by simp)
  have upC : ∀ j c, H3.get j = some c → C.get j = some c := fun j c h => by rw [fC.same j (get_lt h) (by simp)]; exact h
  have owC : ∀ j, j < H3.length → fromO H3 o3 (-3) j = o3 j := fun j hj => fC.own j hj
  have xC := (hx.fr f3 (by simp; exact hq)).fr fC (by simp)
  have hml := h.fits
  have o0 : o3 H.length = -5 := by simp only [o3]; rw [up_ne (by omega), up_self]
  have o1 : o3 (H.length + 1) = -5 := by simp only [o3]; rw [up_self]
  have o2 : o3 (H.length + 2) = -4 := by simp only [o3]; rw [up_ne (by omega), up_ne (by omega), from_ge (by omega)]
  let L := F32_L0 [pv p, x, pv (H.length + 1), fromG H3, undef, undef, pv (H.length + 2), pv H.length, undef, undef, undef, undef, undef, undef, undef, undef, undef]
  obtain ⟨s, H', hrng, hend⟩ := from_rng (G := G) (n := n + 1) (L := L)
    (J := fun i H' => (∃ o', Fr C (fromO H3 o3 (-3)) H' o' [-4]) ∧ H'.oth C.length = some (.loop L .ready) ∧ H'.get (H.length + 2) = some ⟨[cv (i : Int)], 3, 1, false⟩) (R := fun _ _ => False) (mb := fun _ => true) (ps := [-4]) (i0 := 0)
    mC.v (by simp) (by simpa using hml) (by omega) (by simp) cm cf ca (by simp [Owner.up]) (by simp [Owner.up]) (fun H' o' _ x _ => all_may x H') (fun i H' e => ⟨e.1, e.2.1⟩) (fun _ _ h => h.elim)
    ⟨⟨_, (Fr.refl _ _ _).newO _ 0⟩, oth_newO, by rw [get_slot (slot_newO (by omega))]; exact upC _ _ g2⟩ (Nat.zero_le _)
    (by
      rintro i H' kx vx hk hv' _ _ ⟨⟨o', f⟩, ot, gi⟩
      obtain ⟨hi, rfl⟩ := kl_at hk
      obtain rfl := vl_at hv'
      rw [F32_R0_eq (h := ot)]
      have gx : H'.get H.length = some ⟨[x], 51, 1, false⟩ := by rw [f.same _ (by omega) (by rw [owC _ (by omega), o0]; simp)]; exact upC _ _ g0
      obtain ⟨bi, y0, hix, hy0, hbo, hbd⟩ := (xC.fr f (by simp; exact hq)).idx hi
      have hxl := xC.len
      obtain ⟨d1, d2, d3⟩ := hbd (H'.putO C.length (.loop L .busy)) (get_putO ot hy0)
      have w5 := ld1_pv _ 0 _ (get_putO (d := .loop L .busy) ot gi)
      have w3 := ld1_pv _ 0 _ (get_putO (d := .loop L .busy) ot gx)
      have t5 := st_1 (H.length + 2) 0 (cv ((i + 1 : Nat) : Int)) _ (get_putO (d := .loop L .busy) ot gi) rfl (by simp) rfl rfl rfl
      have hne := oth_ne ot gi
      have ot2 := oth_put' (x := ⟨[cv ((i + 1 : Nat) : Int)], 3, 1, false⟩) (oth_putO (d := .loop L .busy) ot) hne
      have en := endR_eq (e := .normal) ot2
      simp only [LState.of] at en
      simp only [List.set_cons_zero] at t5
      have gi2 := get_put (c := ⟨[cv ((i + 1 : Nat) : Int)], 3, 1, false⟩) (get_putO (d := .loop L .busy) ot gi)
      have hw : IntKind.i64.wrap ((i : Int) + 1) = ((i + 1 : Nat) : Int) := by rw [w64 (by omega)]; omega
      have hge : ¬ ((i : Int) ≥ l.length) := by omega
      refine .inl ⟨_, ?_, ⟨o', ?_⟩, oth_putO ot2, get_putO ot2 gi2⟩
      rotate_left
      · exact ((f.putO (fun hlt => by omega)).put (fun hlt => by rw [owC _ (by omega), o2]; simp)).putO (fun hlt => by omega)
      · clear_value L
        unfold F32_R0
        simp -implicitDefEqProofs [-gt_iff_lt, -ge_iff_le, -List.getD_eq_getElem?_getD, -Int.natCast_add, begR_eq ot, w5, w3, hxl, geq_int, hge, hix, fad_pv, d1, d2, neq_int, pick_bool, add_int, hw, t5, en, AExit.on])
  rcases hend with ⟨rfl, j, _, hj, ⟨⟨o4, f4⟩, ot4, gi4⟩, hall⟩ | ⟨_, _, _, h, _⟩
  case inr => exact h.elim
  have hjl : j = l.length := by
    have hj' : j ≤ l.length := by simpa using hj
    rcases Nat.lt_or_ge j l.length with g | g
    · exact absurd (hall _ (keys_get g)) (by simp)
    · omega
  subst hjl
  obtain ⟨D, eD⟩ : ∃ y, y = H'.kill C.length := ⟨_, rfl⟩
  have lH' := f4.size
  have fD : Fr C (fromO H3 o3 (-3)) D o4 [-4] := by rw [eD]; exact f4.kill (fun h => by omega)
  have gD : D.get (H.length + 2) = some ⟨[cv (l.length : Int)], 3, 1, false⟩ := by rw [eD, get_kill_ne (by omega)]; exact gi4
  have mD := mC.fr fD (by simp)
  have xD := xC.fr fD (by simp; exact hq)
  have lD := fD.size
  have gD0 : D.get H.length = some ⟨[x], 51, 1, false⟩ := by rw [fD.same _ (by omega) (by rw [owC _ (by omega), o0]; simp)]; exact upC _ _ g0
  have gD1 : D.get (H.length + 1) = some ⟨[.bool false], 4, 1, false⟩ := by rw [fD.same _ (by omega) (by rw [owC _ (by omega), o1]; simp)]; exact upC _ _ g1
  have owD : ∀ j, j < H3.length → o4 j = o3 j := fun j hj => by rw [fD.own j (by omega), owC j hj]
  have r5 := Backward_runs (G := G) (n := n + 1) p D
  obtain ⟨E, eE⟩ : ∃ y, y = backH D p := ⟨_, rfl⟩
  have lE : E.length = D.length + 1 := by rw [eE]; exact new_len _ _
  have fE : Fr D o4 E (o4.up D.length (-3)) [] := by rw [eE]; exact (Fr.refl _ _ _).new _ _
  have gE : E.get D.length = some ⟨[pv p], 24, 1, false⟩ := by rw [eE]; exact get_new
  rw [← eE] at r5
  have mE := mD.fr fE (by simp)
  have xE := xD.fr fE (by simp)
  have upE : ∀ j c, D.get j = some c → E.get j = some c := fun j c h => by rw [fE.same j (get_lt h) (by simp)]; exact h
  have owE : ∀ j, j < H3.length → (o4.up D.length (-3)) j = o3 j := fun j hj => by rw [up_ne (by omega), owD j hj]
  let L1 := F32_L1 [pv p, x, pv (H.length + 1), fromG H3, undef, undef, pv (H.length + 2), pv H.length, undef, undef, undef, fnv 63 #[pv D.length], undef, undef, undef, undef, undef]
  obtain ⟨s, H', hrng1, hend⟩ := back_rng (G := G) (n := n + 1) (L := L1)
    (J := fun i H' => (∃ o', Fr E (o4.up D.length (-3)) H' o' [-4]) ∧ H'.oth E.length = some (.loop L1 .ready) ∧ H'.get (H.length + 2) = some ⟨[cv (i : Int)], 3, 1, false⟩) (R := fun _ _ => False) (ps := [-4])
    mE.v (by simp) (by simpa using hml) (by omega) (by simp) gE (by simp [Owner.up]) (fun i H' e => ⟨e.1, e.2.1⟩) (fun _ _ h => h.elim)
    ⟨⟨_, (Fr.refl _ _ _).newO _ 0⟩, oth_newO, by rw [get_slot (slot_newO (by omega)), List.length_map, List.length_map]; exact upE _ _ gD⟩
    (by
      rintro i H' kx vx hk hv' ⟨⟨o', f⟩, ot, gi⟩
      obtain ⟨hi, rfl⟩ := kl_at hk
      obtain rfl := vl_at hv'
      rw [F32_R1_eq (h := ot)]
      have gx : H'.get H.length = some ⟨[x], 51, 1, false⟩ := by rw [f.same _ (by omega) (by rw [owE _ (by omega), o0]; simp)]; exact upE _ _ gD0
      obtain ⟨bi, y0, hix, hy0, hbo, hbd⟩ := (xE.fr f (by simp; exact hq)).idx hi
      have gi2 := get_put (c := ⟨[cv (i : Int)], 3, 1, false⟩) (get_putO (d := .loop L1 .busy) ot gi)
      have hne := oth_ne ot gi
      have bne : bi ≠ H.length + 2 := by
        rintro rfl
        rw [gi] at hy0
        rw [f.own _ (by omega), owE _ (by omega), o2] at hbo
        exact hq hbo.symm
      obtain ⟨d1, d2, d3⟩ := hbd ((H'.putO E.length (.loop L1 .busy)).put (H.length + 2) ⟨[cv (i : Int)], 3, 1, false⟩) (by rw [get_put_ne bne]; exact get_putO ot hy0)
      have w5 := ld1_pv _ 0 _ (get_putO (d := .loop L1 .busy) ot gi)
      have w5' := ld1_pv _ 0 _ gi2
      have w3g : ((H'.putO E.length (.loop L1 .busy)).put (H.length + 2) ⟨[cv (i : Int)], 3, 1, false⟩).get H.length = some ⟨[x], 51, 1, false⟩ := by
        rw [get_put_ne (show H.length ≠ H.length + 2 by omega)]; exact get_putO (d := .loop L1 .busy) ot gx
      have w3 := ld1_pv H.length 0 _ w3g
      have t5 := st_1 (H.length + 2) 0 (cv (i : Int)) _ (get_putO (d := .loop L1 .busy) ot gi) rfl (by simp) rfl rfl rfl
      have ot2 := oth_put' (x := ⟨[cv (i : Int)], 3, 1, false⟩) (oth_putO (d := .loop L1 .busy) ot) hne
      have en := endR_eq (e := .normal) ot2
      simp only [LState.of] at en
      simp only [List.set_cons_zero] at t5
      have hw : IntKind.i64.wrap (((i + 1 : Nat) : Int) - 1) = (i : Int) := by rw [w64 (by omega)]; omega
      have hge : ¬ ((i : Int) < 0) := by omega
      refine .inl ⟨_, ?_, ⟨o', ?_⟩, oth_putO ot2, get_putO ot2 gi2⟩
      rotate_left
      · exact ((f.putO (fun hlt => by omega)).put (fun hlt => by rw [owE _ (by omega), o2]; simp)).putO (fun hlt => by omega)
      · clear_value L1
        unfold F32_R1
        simp -implicitDefEqProofs [-gt_iff_lt, -ge_iff_le, -List.getD_eq_getElem?_getD, -Int.natCast_add, begR_eq ot, w5, w5', w3, lss_int, hge, hix, fad_pv, d1, d2, neq_int, pick_bool, sub_int, hw, t5, en, AExit.on])
  rcases hend with ⟨rfl, ⟨o5, f5⟩, ot5, gi5⟩ | ⟨_, _, h, _⟩
  case inr => exact h.elim
  have lH5 := f5.size
  obtain ⟨K, eK⟩ : ∃ y, y = H'.kill E.length := ⟨_, rfl⟩
  have fK : Fr E (o4.up D.length (-3)) K o5 [-4] := by rw [eK]; exact f5.kill (fun h => by omega)
  have gK2 : K.get (H.length + 2) = some ⟨[cv 0], 3, 1, false⟩ := by rw [eK, get_kill_ne (by omega)]; exact gi5
  have gK0 : K.get H.length = some ⟨[x], 51, 1, false⟩ := by rw [fK.same _ (by omega) (by rw [owE _ (by omega), o0]; simp)]; exact upE _ _ gD0
  have gK1 : K.get (H.length + 1) = some ⟨[.bool false], 4, 1, false⟩ := by rw [fK.same _ (by omega) (by rw [owE _ (by omega), o1]; simp)]; exact upE _ _ gD1
  have mK := mE.fr fK (by simp)
  have rL := Len_runs (G := G) (n := n + 1) mK
  have k0 : ld1 (pv H.length) K = some x := ld1_pv _ 0 _ gK0
  have k2 : ld1 (pv (H.length + 2)) K = some (cv 0) := ld1_pv _ 0 _ gK2
  have kt := st_1 (H.length + 1) 0 (.bool true) K gK1 rfl (by simp) rfl rfl rfl
  simp only [List.set_cons_zero] at kt
  have kl' : ld1 (pv (H.length + 1)) (K.put (H.length + 1) ⟨[.bool true], 4, 1, false⟩) = some (.bool true) := ld1_pv _ 0 _ (get_put gK1)
  have hxl := hx.len
  have heq := hx.eqV
  rw [← eD] at hrng
  rw [← eK] at hrng1
  refine ⟨K.put (H.length + 1) ⟨[.bool true], 4, 1, false⟩, o5, ?_, ?_⟩
  · simp only [L] at hrng
    simp only [L1] at hrng1
    clear_value L L1
    simp -implicitDefEqProofs [-gt_iff_lt, -ge_iff_le, F32, hb0, newBlk, l1, l2, ← e2, ← e3, st0, r4, hrng, F32_j0_v, F32_j0v, r5, hrng1, F32_j1_v, F32_j1v, k0, k2, eql_int, rL, hxl, pick_bool, kt, heq, kl']
  · have := (((f3.tr (fC.wk (by simp))).tr fD).tr (fE.wk (by simp))).tr fK
    exact this.put (fun h => by omega)
end
end Go.Proofs.Ytdgolnenpnkjbaa.Fun
