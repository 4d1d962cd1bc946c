
/- LinearOrder over the abstract machine. -/
import Derived.Test.YtgakioiplkehgaaFunLinearOrder
import Derived.Test.YtgakioiplkehgaaLinO
import Derived.Test.YtgakioiplkehgaaFunLinearOrder
namespace Go.Proofs.Ytgakioiplkehgaa.Fun
open Go Go.RowKit Go.Proofs.YtgakioiplkehgaaA.Am
set_option linter.unusedVariables false
set_option linter.unusedSimpArgs false
set_option linter.unnecessarySimpa false
set_option maxRecDepth 10000
theorem known_bad : (ks ++ badOf Try.prog).contains 8 = true := by rw [badIs]; rfl
theorem known_run (n : Nat) (H : Heap) : run KG (n + 1) 8 [] H = some (.bool true, H) := by
  unfold run
  simp only [acall, known_bad, if_true]
  simp [kinG]
theorem abE1 (t i : Int) (op : OpV) : abuild Try.prog 31 [(0, cv 1), (1, cv t), (2, cv i), (3, opA op)] = some (evA ⟨1, t, i, op, res0, 0⟩ nils) := by kernel_rfl
theorem abE2 (t i : Int) : abuild Try.prog 31 [(0, cv 2), (1, cv t), (2, cv i)] = some (evA ⟨2, t, i, zop, res0, 0⟩ nils) := by kernel_rfl
theorem abE3 (t i : Int) (r : ResV) {s : Value} {a : Option Addr} {m c : Nat} (es : s = .slice a m c) : abuild Try.prog 31 [(0, cv 3), (1, cv t), (2, cv i), (4, resA r s)] = some (evA ⟨3, t, i, zop, r, 0⟩ s) := by subst es; kernel_rfl
theorem abO (a b c : Int) : abuild Try.prog 23 [(0, cv a), (1, cv b), (2, cv c)] = some (opA ⟨a, b, c⟩) := by kernel_rfl
theorem bsE (e : EvV) {s : Value} {a : Option Addr} {m c : Nat} (es : s = .slice a m c) (H : Heap) : abuildSlice Try.prog 32 1 [(0, evA e s)] H = some (.slice (some ⟨H.length, 0, none⟩) 1 1, H.new ⟨evCells e s, 31, 13, false⟩) := by subst es; kernel_rfl
/-- The loop's state. -/
structure OrdS (H : Heap) (o : Owner) (v y x : Value) (zs : List Int) (p : PL) (L : List EvV) : Prop where
  ops : IntsR H o (-1) v zs
  map : SlR H o (-32) y p
  log : LogR H o (-30) (-31) x L
theorem OrdS.fr {H H' : Heap} {o o' : Owner} {v y x : Value} {zs : List Int} {p : PL} {L : List EvV} (h : OrdS H o v y x zs p L) (f : Fr H o H' o' []) : OrdS H' o' v y x zs p L :=
  ⟨h.ops.fr f (by simp), h.map.fr f (by simp), h.log.fr f (by simp) (by simp)⟩
/-- An event is told. -/
theorem OrdS.tell {H : Heap} {o : Owner} {v y x : Value} {zs : List Int} {p : PL} {L : List EvV} (h : OrdS H o v y x zs p L) (e : EvV) {s : Value} (hs : SlR H o (-31) s e.res.list) (hl : L.length < 4000000) :
    ∃ x' H' o' H1, abuildSlice Try.prog 32 1 [(0, evA e s)] H = some (.slice (some ⟨H.length, 0, none⟩) 1 1, H1) ∧ appS 31 13 120 x (.slice (some ⟨H.length, 0, none⟩) 1 1) H1 = some (x', H') ∧ OrdS H' o' v y x' zs p (L ++ [e]) ∧ Fr H o H' o' [-30] := by
  obtain ⟨a, c, es⟩ := hs.isSlice
  obtain ⟨H1, e1⟩ : ∃ z, z = H.new ⟨evCells e s, 31, 13, false⟩ := ⟨_, rfl⟩
  have b1 := bsE e es H
  rw [← e1] at b1
  have x1 : Ext H H1 := by rw [e1]; exact (Ext.refl H).new _
  have f1 := x1.fr o (-9)
  have h1 := h.fr f1
  have g1 : H1.get H.length = some ⟨evCells e s, 31, 13, false⟩ := by rw [e1]; exact get_new
  obtain ⟨x', H', o', r, lg, f⟩ := h1.log.app (tE := 31) g1 (hs.fr f1 (by simp)) (by omega) (by omega)
  exact ⟨x', H', o', H1, b1, r, ⟨h1.ops.fr f (by simp), h1.map.fr f (by simp), lg⟩, (f1.wk (by simp)).tr f⟩
/-- An event of a log: where it lies; its N turned. -/
theorem log_nth {H : Heap} {o : Owner} {x : Value} {L : List EvV} (h : LogR H o (-30) (-31) x L) {k : Nat} {e : EvV} (hk : L[k]? = some e) :
    ∃ i, (∀ H', iadS 13 x (cv k) H' = some (.pointer (some ⟨i, 13 * k, none⟩), H')) ∧ ld1 (.pointer (some ⟨i, 13 * k, none⟩)) H = some (cv e.kind) ∧ ld1 (.pointer (some ⟨i, 13 * k + 10, none⟩)) H = some (cv e.res.n) ∧
      ∀ w : Int, ∃ H', stS 1 (.pointer (some ⟨i, 13 * k + 10, none⟩)) (cv w) H = some (undef, H') ∧ LogR H' o (-30) (-31) x (L.set k { e with res := { e.res with n := w } }) := by
  have hkl : k < L.length := (List.getElem?_eq_some_iff.1 hk).1
  rcases h with ⟨rfl, rfl⟩ | ⟨i, cap, rest, ty, es, rfl, h2, rfl, h4, h5, h6⟩
  · simp at hkl
  · have hl := evs_len es
    rw [List.getElem?_map] at hk
    cases hx : es[k]? with
    | none => rw [hx] at hk; cases hk
    | some z =>
      rw [hx] at hk
      cases hk
      simp only [List.length_map] at hkl h4 ⊢
      have hat := evs_at hx rest
      have cell : ∀ j v, j < 13 → (evCells z.1 z.2)[j]? = some v → (evs es ++ rest)[13 * k + j]? = some v := fun j v hj hv => by
        rw [← hat, List.getElem?_take, if_pos hj, List.getElem?_drop] at hv
        exact hv
      refine ⟨i, fun H' => ?_, ?_, ?_, fun w => ?_⟩
      · simp only [iadS]; rw [if_pos (by constructor <;> omega)]; simp <;> omega
      · rw [ld1_pv _ _ _ h2]; exact cell 0 _ (by omega) rfl
      · rw [ld1_pv _ _ _ h2]; exact cell 10 _ (by omega) rfl
      · have st := st_1 i (13 * k + 10) (cv w) H h2 rfl (by simp [hl]; omega) rfl rfl rfl
        simp only at st
        have hset : (evs es ++ rest).set (13 * k + 10) (cv w) = evs (es.set k ({ z.1 with res := { z.1.res with n := w } }, z.2)) ++ rest := by
          rw [List.set_append, if_pos (by rw [hl]; omega), evs_set ({ z.1 with res := { z.1.res with n := w } }, z.2) 10 (cv w) hx (by omega) rfl]
        rw [hset] at st
        have f : Fr H o (H.put i ⟨evs (es.set k ({ z.1 with res := { z.1.res with n := w } }, z.2)) ++ rest, ty, 13, false⟩) o [-30] := (Fr.refl _ _ _).put fun _ => by simp [h5]
        refine ⟨_, st, .inr ⟨i, cap, rest, ty, es.set k ({ z.1 with res := { z.1.res with n := w } }, z.2), by simp, get_put h2, by rw [List.map_set], by simp; omega, h5, fun y hy => ?_⟩⟩
        rcases List.mem_or_eq_of_mem_set hy with hy | rfl
        · exact (h6 y hy).fr f (by simp)
        · exact (h6 z (List.mem_of_getElem? hx)).fr f (by simp)
/-- What one operation adds. -/
theorem ord_one {H : Heap} {o : Owner} {v y x : Value} {zs : List Int} {i : Nat} (h : OrdS H o v y x zs (logTo zs i).2 (logTo zs i).1) (hz : ∀ z ∈ zs, W64 z) (hi : i < zs.length) (hi4 : i < 40) {a1 v17 v9 v10 v71 v96 v99 v11 v109 : Value} {N : Nat} (hN : (i : Int) < N) :
    ∃ H' o' y' x' w17 w9 w10 w71, F6_b0 (run KG 16777216) 16777216 [v, a1, .bool false, cv i, cv N, v17, y, v9, x, v10, v71, v96, v99, v11, v109] H = some (.normal, [v, a1, .bool false, cv (i + 1 : Nat), cv N, w17, y', w9, x', w10, w71, v96, v99, v11, v109], H') ∧
      OrdS H' o' v y' x' zs (logTo zs (i + 1)).2 (logTo zs (i + 1)).1 := by
  obtain ⟨z, ez⟩ : ∃ z, z = zs.getD i 0 := ⟨_, rfl⟩
  have hzz : W64 z := by rw [ez, List.getD_eq_getElem?_getD, List.getElem?_eq_getElem hi]; exact hz _ (List.getElem_mem hi)
  obtain ⟨p, ep⟩ : ∃ p, p = (logTo zs i).2 := ⟨_, rfl⟩
  obtain ⟨L, eL⟩ : ∃ L, L = (logTo zs i).1 := ⟨_, rfl⟩
  have hpl := logTo_len2 zs i
  have hpw := logTo_w zs i
  have hpa := logTo_asc zs i
  have hLl := logTo_len1 zs i
  have next : logTo zs (i + 1) = (L ++ (blk0 p i (opOf z) ++ [ev3 i (ans p (opOf z))]), aft p (opOf z)) := by rw [ep, eL, ez]; rfl
  rw [next]
  rw [← ep] at h hpl hpw hpa
  rw [← eL] at h hLl
  have hop := opOf_ok z
  have how := opOf_w z
  -- the operation
  have w10 : IntKind.i64.wrap (z.tdiv 10) = z.tdiv 10 := w64 (tdiv_w hzz (by omega))
  have w120 : IntKind.i64.wrap (z.tdiv 120) = z.tdiv 120 := w64 (tdiv_w hzz (by omega))
  obtain ⟨H1, e1⟩ : ∃ t, t = H.holes 1 := ⟨_, rfl⟩
  have x1 : Ext H H1 := by rw [e1]; exact ⟨fun j hj => slot_holes hj, by rw [holes_len]; omega⟩
  have h1h : H1[H.length]? = some .hole := by rw [e1]; exact hole_self
  have l1 : H1.length = H.length + 1 := by rw [e1, holes_len]
  have f1 := x1.fr o (-9)
  obtain ⟨qq, off, b, hix, hb, hc⟩ := (h.ops.fr f1 (by simp)).1.idx hi
  rw [← ez] at hc
  have u1 := Cut_runs (G := KG) 16777215 z 10 hzz (by omega) H1
  have u2 := Cut_runs (G := KG) 16777215 (z.tdiv 10) 12 (tdiv_w hzz (by omega)) (by omega) H1
  have u3 := Cut_runs (G := KG) 16777215 (z.tdiv 120) 20 (tdiv_w hzz (by omega)) (by omega) H1
  have a1' := Int.emod_nonneg z (show (10 : Int) ≠ 0 by omega)
  have a2' := Int.emod_lt_of_pos z (show (0 : Int) < 10 by omega)
  have k1 : IntKind.i64.wrap (1 + z % 10) = 1 + z % 10 := w64 (by omega)
  have ab := abO (1 + z % 10) (z.tdiv 10 % 12) (z.tdiv 120 % 20)
  obtain ⟨H2, e2⟩ : ∃ t : Heap, t = H1.set H.length (.blk ⟨[cv 0, cv 0, cv 0], 23, 1, false⟩) := ⟨_, rfl⟩
  have lay : layV (H.length + 0) (some (fun i => Value.pointer (some ⟨i, 0, none⟩), (⟨[cv 0, cv 0, cv 0], 23, 1, false⟩ : Blk))) H1 = some (pv H.length, H2) := by rw [e2]; exact layV_eq h1h
  rw [Nat.add_zero] at lay
  have g2 : H2.get H.length = some ⟨[cv 0, cv 0, cv 0], 23, 1, false⟩ := by rw [e2]; exact get_set_self (by omega)
  obtain ⟨H3, e3⟩ : ∃ t, t = H2.put H.length ⟨[cv (opOf z).kind, cv (opOf z).key, cv (opOf z).value], 23, 1, false⟩ := ⟨_, rfl⟩
  have st3 : stS 3 (pv H.length) (opA (opOf z)) H2 = some (undef, H3) := by rw [e3]; simp [stS, stCells, g2, Value.cells, known, oneCell, splice]
  have st3' : stS 3 (pv H.length) (opA ⟨1 + z % 10, z.tdiv 10 % 12, z.tdiv 120 % 20⟩) H2 = some (undef, H3) := st3
  have g3 : H3.get H.length = some ⟨[cv (opOf z).kind, cv (opOf z).key, cv (opOf z).value], 23, 1, false⟩ := by rw [e3]; exact get_put g2
  have x3 : Ext H H3 := by
    refine ⟨fun j hj => ?_, ?_⟩
    · rw [e3, slot_put (by omega), e2, slot_set (by omega), x1.old j hj]
    · rw [e3, put_len, e2, List.length_set, l1]; omega
  have l3 : H3.length = H.length + 1 := by rw [e3, put_len, e2, List.length_set, l1]
  have f3 := x3.fr o (-9)
  have h3 := h.fr f3
  have LO := ldO g3
  have hix' : ∀ H', iadS 1 v (cv i) H' = some (.pointer (some ⟨qq, off, none⟩), H') := hix
  have hld : ∀ Hx, Hx.get qq = H1.get qq → ld1 (.pointer (some ⟨qq, off, none⟩)) Hx = some (cv z) := fun Hx hx => by
    rw [ld1_pv _ _ _ (by rw [hx]; exact hb)]; exact hc
  have qne : qq ≠ H.length := by
    rintro rfl
    have := get_lt hb
    unfold Heap.get at hb
    rw [h1h] at hb
    cases hb
  have d1 := hld H1 rfl
  have d2 := hld H2 (by unfold Heap.get; rw [e2, slot_set qne])
  -- what it answers
  obtain ⟨yr, H4, r4, ⟨s4, eyr, hs4⟩, x4⟩ := lAnswer_runs (n := 16777207) h3.map (by omega) (opOf z) (by omega)
  have eans : ansL p (opOf z) = ans p (opOf z) := by unfold ansL; rw [if_pos hpa]
  rw [eans] at eyr hs4
  subst eyr
  have f4 := x4.fr (o.from H.length (-9)) (-31)
  have hs4' : SlR H4 ((o.from H.length (-9)).from H3.length (-31)) (-31) s4 (ans p (opOf z)).list := slr_of hs4 fun j hj _ => from_ge hj
  have h4 := h3.fr f4
  obtain ⟨o4, eo4⟩ : ∃ t, t = (o.from H.length (-9)).from H3.length (-31) := ⟨_, rfl⟩
  rw [← eo4] at hs4' h4
  obtain ⟨a4, c4, es4⟩ := hs4.isSlice
  obtain ⟨H5, e5⟩ : ∃ t, t = H4.new ⟨[cv 0, .bool false, cv 0, cv 0, cv 0, nils], 29, 1, false⟩ := ⟨_, rfl⟩
  have n5 : newBlk H4 29 1 [cv 0, .bool false, cv 0, cv 0, cv 0, nils] = (pv H4.length, H5) := by rw [newR, e5]
  have g5 : H5.get H4.length = some ⟨[cv 0, .bool false, cv 0, cv 0, cv 0, nils], 29, 1, false⟩ := by rw [e5]; exact get_new
  have t6 := st_6 H4.length (ans p (opOf z)) es4 H5 g5 rfl
  obtain ⟨H6, e6⟩ : ∃ t, t = H5.put H4.length ⟨resCells (ans p (opOf z)) s4, 29, 1, false⟩ := ⟨_, rfl⟩
  rw [← e6] at t6
  have g6 : H6.get H4.length = some ⟨resCells (ans p (opOf z)) s4, 29, 1, false⟩ := by rw [e6]; exact get_put g5
  have x6 : Ext H4 H6 := by rw [e6, e5]; exact ((Ext.refl H4).new _).put (Nat.le_refl _)
  have f6 := x6.fr o4 (-9)
  have h6 := h4.fr f6
  have hs6 := hs4'.fr f6 (by simp)
  obtain ⟨o6, eo6⟩ : ∃ t, t = o4.from H4.length (-9) := ⟨_, rfl⟩
  rw [← eo6] at h6 hs6
  have oc6 : o6 H.length = -9 := by
    have := x4.size
    rw [eo6, from_lt (by omega), eo4, from_lt (by omega), from_ge (Nat.le_refl _)]
  have ob6 : o6 H4.length = -9 := by rw [eo6, from_ge (Nat.le_refl _)]
  have g36 : H6.get H.length = some ⟨[cv (opOf z).kind, cv (opOf z).key, cv (opOf z).value], 23, 1, false⟩ := x6.get (x4.get g3)
  -- it is told
  have hrem : (5 : Int) ≠ 0 := by omega
  obtain ⟨x7, H7, o7, H7', bs7, ra7, h7, f7⟩ := h6.tell (ev1 i (opOf z)) (s := nils) .nil (by omega)
  have g37 : H7.get H.length = some ⟨[cv (opOf z).kind, cv (opOf z).key, cv (opOf z).value], 23, 1, false⟩ := by rw [f7.same _ (get_lt g36) (by rw [oc6]; simp)]; exact g36
  have g67 : H7.get H4.length = some ⟨resCells (ans p (opOf z)) s4, 29, 1, false⟩ := by rw [f7.same _ (get_lt g6) (by rw [ob6]; simp)]; exact g6
  have oc7 : o7 H.length = -9 := by rw [f7.own _ (get_lt g36)]; exact oc6
  have ob7 : o7 H4.length = -9 := by rw [f7.own _ (get_lt g6)]; exact ob6
  have hs7 := hs6.fr f7 (by simp)
  have K0 : ld1 (pv H.length) H7 = some (cv (opOf z).kind) := ld1_pv H.length 0 H7 g37
  have K1 : ld1 (.pointer (some ⟨H4.length, 1, none⟩)) H7 = some (.bool (ans p (opOf z)).found) := ld1_pv H4.length 1 H7 g67
  have e1a : evA (ev1 i (opOf z)) nils = evA ⟨1, thr i, i, opOf z, res0, 0⟩ nils := rfl
  have ab1 : abuild Try.prog 31 [(0, cv 1), (1, cv ((i : Int).tmod 5)), (2, cv i), (3, opA (opOf z))] = some (evA (ev1 i (opOf z)) nils) := abE1 _ _ _
  have ab2 : abuild Try.prog 31 [(0, cv 2), (1, cv ((i : Int).tmod 5)), (2, cv i)] = some (evA (ev2 i) nils) := abE2 _ _
  have ab3 : abuild Try.prog 31 [(0, cv 3), (1, cv ((i : Int).tmod 5)), (2, cv i), (4, resA (ans p (opOf z)) s4)] = some (evA (ev3 i (ans p (opOf z))) s4) := abE3 _ _ _ es4
  have hw : IntKind.i64.wrap ((i : Int) + 1) = ((i + 1 : Nat) : Int) := by rw [w64 (by omega)]; omega
  have L6 := ld_6 H4.length (ans p (opOf z)) H7 g67
  have hfound : ((opOf z).kind = 1 ∨ (opOf z).kind = 3) → (ans p (opOf z)).found = mhas p (opOf z).key := fun hk => by
    unfold ans
    rw [if_pos (by omega)]
    unfold resF
    cases hm : mhas p (opOf z).key <;> simp [res0]
  -- does it turn the map?
  have cond : ∀ (k2 : decide ((opOf z).kind = 2) = decide ((opOf z).kind = 2)), trn p (opOf z) = (if (opOf z).kind = 2 then true else if (opOf z).kind = 1 then !(ans p (opOf z)).found else if (opOf z).kind = 3 then (ans p (opOf z)).found else false) := fun _ => by
    unfold trn
    by_cases c2 : (opOf z).kind = 2
    · simp [c2]
    · by_cases c1 : (opOf z).kind = 1
      · rw [if_pos c1, if_neg c2, if_pos c1, hfound (.inl c1)]
      · by_cases c3 : (opOf z).kind = 3
        · rw [if_neg c1, if_pos c3, if_neg c2, if_neg c1, if_pos c3, hfound (.inr c3)]
        · simp [c1, c2, c3]
  have cond := cond rfl
  have lenb : (L ++ [ev1 i (opOf z)]).length < 3999999 := by simp; omega
  cases ht : trn p (opOf z) with
  | false =>
    rw [ht] at cond
    have eaft : aft p (opOf z) = p := by unfold aft; rw [ht]; rfl
    have eblk : L ++ (blk0 p i (opOf z) ++ [ev3 i (ans p (opOf z))]) = (L ++ [ev1 i (opOf z)]) ++ [ev3 i (ans p (opOf z))] := by unfold blk0; rw [ht]; simp
    rw [eaft, eblk]
    obtain ⟨x8, H8, o8, H8', bs8, ra8, h8, f8⟩ := h7.tell (ev3 i (ans p (opOf z))) (s := s4) hs7 (by omega)
    refine ⟨H8, o8, y, x8, .bool true, pv H.length, pv H4.length, .bool false, ?_, h8⟩
    by_cases c2 : (opOf z).kind = 2
    · rw [if_pos c2] at cond; cases cond
    rw [if_neg c2] at cond
    by_cases c1 : (opOf z).kind = 1
    · rw [if_pos c1] at cond
      have hf : (ans p (opOf z)).found = true := by simpa using cond.symm
      rw [hf] at K1
      simp -implicitDefEqProofs [-Int.natCast_add, F6_b0_v, F6_b0v, lss_int, hN, holesK, ← e1, hix', d1, d2, u1, u2, u3, add_int, k1, quo_int, w10, w120, ab, lay, st3', LO, ldO g36, r4, n5, t6, rem_int, ab1, bs7, ra7, fad_pv, K0, K1, eql_int, not_bool, pick_bool, c1, c2, F6_j2_v, F6_j2v, L6, ab3, bs8, ra8, F6_j1_v, F6_j1v, hw, fin]
    rw [if_neg c1] at cond
    by_cases c3 : (opOf z).kind = 3
    · rw [if_pos c3] at cond
      have hf : (ans p (opOf z)).found = false := by simpa using cond.symm
      rw [hf] at K1
      simp -implicitDefEqProofs [-Int.natCast_add, F6_b0_v, F6_b0v, lss_int, hN, holesK, ← e1, hix', d1, d2, u1, u2, u3, add_int, k1, quo_int, w10, w120, ab, lay, st3', LO, ldO g36, r4, n5, t6, rem_int, ab1, bs7, ra7, fad_pv, K0, K1, eql_int, not_bool, pick_bool, c1, c2, c3, F6_j2_v, F6_j2v, L6, ab3, bs8, ra8, F6_j1_v, F6_j1v, hw, fin]
    · simp -implicitDefEqProofs [-Int.natCast_add, F6_b0_v, F6_b0v, lss_int, hN, holesK, ← e1, hix', d1, d2, u1, u2, u3, add_int, k1, quo_int, w10, w120, ab, lay, st3', LO, ldO g36, r4, n5, t6, rem_int, ab1, bs7, ra7, fad_pv, K0, K1, eql_int, not_bool, pick_bool, c1, c2, c3, F6_j2_v, F6_j2v, L6, ab3, bs8, ra8, F6_j1_v, F6_j1v, hw, fin]
  | true =>
    rw [ht] at cond
    have eblk : L ++ (blk0 p i (opOf z) ++ [ev3 i (ans p (opOf z))]) = ((L ++ [ev1 i (opOf z)]) ++ [ev2 i]) ++ [ev3 i (ans p (opOf z))] := by unfold blk0; rw [ht]; simp
    rw [eblk]
    obtain ⟨x8, H8, o8, H8', bs8, ra8, h8, f8⟩ := h7.tell (ev2 i) (s := nils) .nil (by omega)
    have g38 : H8.get H.length = some ⟨[cv (opOf z).kind, cv (opOf z).key, cv (opOf z).value], 23, 1, false⟩ := by rw [f8.same _ (get_lt g37) (by rw [oc7]; simp)]; exact g37
    have g68 : H8.get H4.length = some ⟨resCells (ans p (opOf z)) s4, 29, 1, false⟩ := by rw [f8.same _ (get_lt g67) (by rw [ob7]; simp)]; exact g67
    have LO8 := ldO g38
    obtain ⟨y9, H9, r9, s9, x9⟩ := lAfter_runs (n := 16777207) h8.map (by omega) (opOf z) (by omega)
    have eaf : rng (-9223372036854775808) 9223372036854775807 (aftL p (opOf z)) = aft p (opOf z) := by
      unfold aftL
      rw [if_pos hpa]
      exact rng_all (hpw.aft how)
    rw [eaf] at s9
    have f9 := x9.fr o8 (-32)
    have s9' : SlR H9 (o8.from H8.length (-32)) (-32) y9 (aft p (opOf z)) := slr_of s9 fun j hj _ => from_ge hj
    have h9 : OrdS H9 (o8.from H8.length (-32)) v y9 x8 zs (aft p (opOf z)) ((L ++ [ev1 i (opOf z)]) ++ [ev2 i]) := ⟨h8.ops.fr f9 (by simp), s9', h8.log.fr f9 (by simp) (by simp)⟩
    have L9 := ld_6 H4.length (ans p (opOf z)) H9 (x9.get g68)
    obtain ⟨x10, H10, o10, H10', bs10, ra10, h10, f10⟩ := h9.tell (ev3 i (ans p (opOf z))) (s := s4) ((hs7.fr f8 (by simp)).fr f9 (by simp)) (by simp only [List.length_append, List.length_singleton]; omega)
    refine ⟨H10, o10, y9, x10, .bool true, pv H.length, pv H4.length, .bool true, ?_, h10⟩
    by_cases c2 : (opOf z).kind = 2
    · simp -implicitDefEqProofs [-Int.natCast_add, F6_b0_v, F6_b0v, lss_int, hN, holesK, ← e1, hix', d1, d2, u1, u2, u3, add_int, k1, quo_int, w10, w120, ab, lay, st3', LO, ldO g36, r4, n5, t6, rem_int, ab1, bs7, ra7, fad_pv, K0, K1, eql_int, not_bool, pick_bool, c2, ab2, bs8, ra8, LO8, r9, F6_j2_v, F6_j2v, L9, ab3, bs10, ra10, F6_j1_v, F6_j1v, hw, fin]
    rw [if_neg c2] at cond
    by_cases c1 : (opOf z).kind = 1
    · rw [if_pos c1] at cond
      have hf : (ans p (opOf z)).found = false := by simpa using cond.symm
      rw [hf] at K1
      simp -implicitDefEqProofs [-Int.natCast_add, F6_b0_v, F6_b0v, lss_int, hN, holesK, ← e1, hix', d1, d2, u1, u2, u3, add_int, k1, quo_int, w10, w120, ab, lay, st3', LO, ldO g36, r4, n5, t6, rem_int, ab1, bs7, ra7, fad_pv, K0, K1, eql_int, not_bool, pick_bool, c1, c2, ab2, bs8, ra8, LO8, r9, F6_j2_v, F6_j2v, L9, ab3, bs10, ra10, F6_j1_v, F6_j1v, hw, fin]
    rw [if_neg c1] at cond
    by_cases c3 : (opOf z).kind = 3
    · rw [if_pos c3] at cond
      have hf : (ans p (opOf z)).found = true := cond.symm
      rw [hf] at K1
      simp -implicitDefEqProofs [-Int.natCast_add, F6_b0_v, F6_b0v, lss_int, hN, holesK, ← e1, hix', d1, d2, u1, u2, u3, add_int, k1, quo_int, w10, w120, ab, lay, st3', LO, ldO g36, r4, n5, t6, rem_int, ab1, bs7, ra7, fad_pv, K0, K1, eql_int, not_bool, pick_bool, c1, c2, c3, ab2, bs8, ra8, LO8, r9, F6_j2_v, F6_j2v, L9, ab3, bs10, ra10, F6_j1_v, F6_j1v, hw, fin]
    · rw [if_neg c3] at cond; cases cond
theorem LinearOrder_run {H : Heap} {v : Value} {zs : List Int} (hv : IntsR H o0 (-1) v zs) (hz : ∀ z ∈ zs, W64 z) (at_ : Int) (hat : W64 at_) : ∃ n H', run KG n 6 [v, cv at_] H = some (.bool true, H') := by
  refine ⟨16777217, ?_⟩
  rw [F6_eq]
  have kn : ∀ H, run KG 16777216 8 [] H = some (.bool true, H) := fun H => known_run 16777215 H
  have hvl := hv.1.len
  obtain ⟨N, hN⟩ : ∃ N, N = min zs.length 40 := ⟨_, rfl⟩
  have hmin : minS (cv zs.length) (cv 40) H = some (cv N, H) := by
    have : (if (40 : Int) < (zs.length : Int) then (40 : Int) else (zs.length : Int)) = (N : Int) := by split <;> omega
    simp only [minS, if_true, this]
  obtain ⟨r, hit, hne, r1, o', y, x, d8, d17, d9, d10, d71, r2, hS⟩ := iter_go (step := F6_b0 (run KG 16777216) 16777216)
    (Q := fun m vs H' => ∃ (i : Nat) (o' : Owner) (y x d17 d9 d10 d71 : Value), i ≤ N ∧ m = N - i ∧ vs = [v, cv at_, .bool false, cv i, cv N, d17, y, d9, x, d10, d71, undef, undef, undef, undef] ∧ OrdS H' o' v y x zs (logTo zs i).2 (logTo zs i).1)
    (R := fun r => r.1 = .exit 0 ∧ ∃ (o' : Owner) (y x d8 d17 d9 d10 d71 : Value), r.2.1 = [v, cv at_, .bool false, d8, cv N, d17, y, d9, x, d10, d71, undef, undef, undef, undef] ∧ OrdS r.2.2 o' v y x zs (logTo zs N).2 (logTo zs N).1)
    (by
      rintro m vs H' ⟨i, o', y, x, d17, d9, d10, d71, hi, rfl, rfl, hS⟩
      by_cases hlt : i < N
      · obtain ⟨H'', o'', y', x', w17, w9, w10, w71, e1, e2⟩ := ord_one hS hz (by omega) (by omega) (a1 := cv at_) (v17 := d17) (v9 := d9) (v10 := d10) (v71 := d71) (v96 := undef) (v99 := undef) (v11 := undef) (v109 := undef) (N := N) (by omega)
        exact .inl ⟨_, H'', N - (i + 1), by omega, e1, i + 1, o'', y', x', w17, w9, w10, w71, by omega, rfl, rfl, e2⟩
      · have hiN : i = N := by omega
        subst hiN
        have h1 : ¬ ((i : Int) < (i : Int)) := by omega
        refine .inr ⟨(.exit 0, [v, cv at_, .bool false, cv i, cv i, .bool false, y, d9, x, d10, d71, undef, undef, undef, undef], H'), ?_, by simp, rfl, o', y, x, _, _, _, _, _, rfl, hS⟩
        simp -implicitDefEqProofs [F6_b0_v, F6_b0v, lss_int, fin])
    (N - 0) [v, cv at_, .bool false, cv (0 : Nat), cv N, undef, nils, undef, nils, undef, undef, undef, undef, undef, undef] H ⟨0, o0, _, _, _, _, _, _, Nat.zero_le _, rfl, rfl, ⟨hv, .nil, .inl ⟨rfl, rfl⟩⟩⟩ 16777216 (by omega)
  obtain ⟨e, vs, H1⟩ := r
  simp only at r1 r2 hS
  subst r1 r2
  simp only [Int.natCast_zero] at hit
  have hN40 : N ≤ 40 := by omega
  have len1 := logTo_len1 zs N
  have lists := logTo_lists zs N
  obtain ⟨S, hS1, _⟩ := logTo_idle zs N (by omega)
  have turn := logTo_turn zs N (by omega)
  have lens2 := logTo_ns zs N
  obtain ⟨L, eL⟩ : ∃ L, L = (logTo zs N).1 := ⟨_, rfl⟩
  have hlog := hS.log
  rw [← eL] at len1 lists hS1 turn hlog lens2
  have hlen := hlog.len
  obtain ⟨H2, rc, x2⟩ := check_runs (n := 16777194) (B := 40) hlog.evs (by omega) (fun e he => by have := lists e he; omega) (by omega) (by omega)
  rw [check_ok hS1] at rc
  have f2 := x2.fr o' (-9)
  have hlog2 := hlog.fr f2 (by simp) (by simp)
  by_cases hL : L.length = 0
  · have hL' : (L.length : Int) = 0 := by omega
    refine ⟨H2, ?_⟩
    rw [hL'] at hlen
    simp -implicitDefEqProofs [F6, hvl, hmin, hit, kBlk, kSeq, up, F6_j3_v, F6_j3v, kn, not_bool, rc, neq_int, eql_int, pick_bool, hlen]
  have hL' : ¬ (L.length : Int) = 0 := by omega
  have cut := Cut_runs (G := KG) 16777215 at_ L.length hat (by omega) H2
  have c0 := Int.emod_nonneg at_ hL'
  have c1 := Int.emod_lt_of_pos at_ (show (0 : Int) < L.length by omega)
  obtain ⟨k, hk⟩ : ∃ k : Nat, at_ % (L.length : Int) = k := ⟨(at_ % (L.length : Int)).toNat, by omega⟩
  rw [hk] at cut c1
  have hkl : k < L.length := by omega
  have hLk : L[k]? = some L[k] := List.getElem?_eq_getElem hkl
  obtain ⟨ib, hix, hkind, hn, hst⟩ := log_nth hlog2 hLk
  by_cases h3 : L[k].kind = 3
  · have hb := lens2 _ (List.getElem_mem hkl)
    have hw : IntKind.i64.wrap (L[k].res.n + 1) = L[k].res.n + 1 := w64 (by omega)
    obtain ⟨H3, st, hlog3⟩ := hst (L[k].res.n + 1)
    obtain ⟨S', t1, t2⟩ := turn k _ hLk h3
    have hset : L.set k { L[k] with res := { L[k].res with n := L[k].res.n + 1 } } = L.take k ++ { L[k] with res := { L[k].res with n := L[k].res.n + 1 } } :: L.drop (k + 1) := by
      rw [List.set_eq_take_append_cons_drop, if_pos hkl]
    have hchk : check (L.set k { L[k] with res := { L[k].res with n := L[k].res.n + 1 } }) st0 0 = k := by
      rw [hset, check_app t1]
      simp only [check, t2]
      rw [List.length_take]; omega
    obtain ⟨H4, rc4, x4⟩ := check_runs (n := 16777194) (B := 40) hlog3.evs (by simp; omega) (fun e he => by
      rcases List.mem_or_eq_of_mem_set he with he | rfl
      · have := lists e he; omega
      · have := lists _ (List.getElem_mem hkl); simp only; omega) (by omega) (by omega)
    rw [hchk] at rc4
    refine ⟨H4, ?_⟩
    have hn' : ld1 (.pointer (some ⟨ib, 13 * k + 6 + 4, none⟩)) H2 = some (cv L[k].res.n) := hn
    have st' : stS 1 (.pointer (some ⟨ib, 13 * k + 6 + 4, none⟩)) (cv (L[k].res.n + 1)) H2 = some (undef, H3) := st
    rw [h3] at hkind
    simp -implicitDefEqProofs [F6, hvl, hmin, hit, kBlk, kSeq, up, F6_j3_v, F6_j3v, kn, not_bool, rc, neq_int, eql_int, pick_bool, hlen, hL, hL', cut, hix, fad_pv, hkind, hn, hn', add_int, hw, st, st', rc4]
  · refine ⟨H2, ?_⟩
    simp -implicitDefEqProofs [F6, hvl, hmin, hit, kBlk, kSeq, up, F6_j3_v, F6_j3v, kn, not_bool, rc, neq_int, eql_int, pick_bool, hlen, hL, hL', cut, hix, fad_pv, hkind, h3]
end Go.Proofs.Ytgakioiplkehgaa.Fun
namespace Go.Proofs.Ytgakioiplkehgaa.Pure
open Go.RowKit Go.Proofs.YtgakioiplkehgaaA.Am Fun
set_option maxRecDepth 10000
theorem LinearOrder_law : Law Try.prog 6 [37, 3] := law_of fun H args hr hi => by
  obtain ⟨v0, _, rfl, h0, v1, _, rfl, h1, rfl⟩ := hi
  obtain ⟨zs, hz, hzw, _⟩ := h0.ints (show Try.prog.underlying 37 = some (.slice 3) from by kernel_rfl) uI (by kernel_rfl)
  obtain ⟨c, rfl, hc⟩ := h1.int uI
  exact LinearOrder_run hz hzw c hc
end Go.Proofs.Ytgakioiplkehgaa.Pure
