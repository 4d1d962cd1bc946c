
/- linear's checker: each event. Over the abstract machine. -/
import Derived.Test.YtgakioiplkehgaaFun2
import Derived.Test.YtgakioiplkehgaaFun3
import Derived.Test.YtgakioiplkehgaaLinC1
namespace Go.Proofs.Ytgakioiplkehgaa.Fun
open Go Go.RowKit Go.Proofs.YtgakioiplkehgaaA.Am
set_option linter.unusedVariables false
set_option linter.unusedSimpArgs false
set_option linter.unnecessarySimpa false
set_option maxRecDepth 10000
/-- A call under way. -/
def CallR (H : Heap) (o : Owner) (k : Nat) (c : CallV) : Prop :=
  ∃ (r : ResV) (s : Value) (ty : TypeId), H.get k = some ⟨callCells c r s, ty, 1, false⟩ ∧ o k = -22 ∧ (∃ a m n, s = .slice a m n) ∧ ∀ a, c.took = some a → r = ans a c.op ∧ SlR H o (-23) s r.list
theorem CallR.fr {H H' : Heap} {o o' : Owner} {k : Nat} {c : CallV} {ps : List Int} (h : CallR H o k c) (f : Fr H o H' o' ps) (h1 : (-22 : Int) ∉ ps) (h2 : (-23 : Int) ∉ ps) : CallR H' o' k c := by
  obtain ⟨r, s, ty, g, ok, hs, ht⟩ := h
  exact ⟨r, s, ty, by rw [f.same k (get_lt g) (by rw [ok]; exact h1)]; exact g, by rw [f.own k (get_lt g)]; exact ok, hs, fun a ha => ⟨(ht a ha).1, (ht a ha).2.fr f h2⟩⟩
/-- The checker's parts. -/
structure LinP (H : Heap) (o : Owner) (c : Nat) (sm : Value) (bm : Option Nat) (t : Nat) (ms : List (Nat × PL)) (cs : List (Int × Nat × CallV)) (ty : TypeId) (inv : Int) : Prop where
  blk : H.get c = some ⟨[sm, .map (some t), cv inv], ty, 1, false⟩
  oc : o c = -20
  tab : H.oth t = some (.tab .i64 (cs.map fun x => (x.1, pv x.2.1)))
  ot : o t = -24
  sl : Sl H o (-21) sm (ms.map fun x => pv x.1) bm
  maps : ∀ x ∈ ms, MapR H o x.1 x.2
  nd : (cs.map fun x => x.2.1).Nodup
  calls : ∀ x ∈ cs, CallR H o x.2.1 x.2.2
theorem oth_lt' {H : Heap} {i : Nat} {x : Other} (h : H.oth i = some x) : i < H.length := oth_lt h
theorem LinP.fr {H H' : Heap} {o o' : Owner} {c : Nat} {sm : Value} {bm : Option Nat} {t : Nat} {ms : List (Nat × PL)} {cs : List (Int × Nat × CallV)} {ty : TypeId} {inv : Int} (h : LinP H o c sm bm t ms cs ty inv) (f : Fr H o H' o' []) : LinP H' o' c sm bm t ms cs ty inv where
  blk := by rw [f.same c (get_lt h.blk) (by simp)]; exact h.blk
  oc := by rw [f.own c (get_lt h.blk)]; exact h.oc
  tab := by rw [f.oth t (oth_lt h.tab) (by simp)]; exact h.tab
  ot := by rw [f.own t (oth_lt h.tab)]; exact h.ot
  sl := h.sl.fr f (by simp)
  maps := fun x hx => (h.maps x hx).fr f (by simp)
  nd := h.nd
  calls := fun x hx => (h.calls x hx).fr f (by simp) (by simp)
def LinR (H : Heap) (o : Owner) (c : Nat) (S : StV) : Prop :=
  ∃ (sm : Value) (bm : Option Nat) (t : Nat) (ms : List (Nat × PL)) (cs : List (Int × Nat × CallV)) (ty : TypeId), LinP H o c sm bm t ms cs ty S.inv ∧ S.maps = ms.map (fun x => x.2) ∧ S.calls = cs.map (fun x => (x.1, x.2.2)) ∧ ms ≠ [] ∧ ∀ x ∈ cs, x.2.2.frm ≤ ms.length
theorem now_eq {S : StV} {ms : List (Nat × PL)} (h : S.maps = ms.map fun x => x.2) {x : Nat × PL} (hx : ms[ms.length - 1]? = some x) : S.now = x.2 := by
  unfold StV.now
  rw [h, List.length_map, List.getD_eq_getElem?_getD, List.getElem?_map, hx]; rfl
theorem last_ex {ms : List (Nat × PL)} (h : ms ≠ []) : ∃ x, ms[ms.length - 1]? = some x ∧ x ∈ ms := by
  have : 0 < ms.length := List.length_pos_iff.2 h
  exact ⟨_, List.getElem?_eq_getElem (by omega), List.getElem_mem _⟩
theorem bsM1 (k : Nat) (H : Heap) : abuildSlice Try.prog 52 1 [(0, pv k)] H = some (.slice (some ⟨H.length, 0, none⟩) 1 1, H.new ⟨[pv k], 48, 1, false⟩) := by kernel_rfl
theorem abC (op : OpV) (no f : Int) : abuild Try.prog 94 [(0, opA op), (1, cv no), (2, cv f)] = some (.agg #[cv op.kind, cv op.key, cv op.value, cv no, cv f, .bool false, cv 0, .bool false, cv 0, cv 0, cv 0, nils]) := by kernel_rfl
section
variable {G : Oracle} {H : Heap} {o : Owner} {q : Int} {n c : Nat} {sm : Value} {bm : Option Nat} {t : Nat} {ms : List (Nat × PL)} {cs : List (Int × Nat × CallV)} {ty : TypeId} {inv : Int}
theorem now_runs (h : LinP H o c sm bm t ms cs ty inv) (hl : ms.length ≤ 65536) {x : Nat × PL} (hx : ms[ms.length - 1]? = some x) (hne : ms ≠ []) : run G (n + 1) 51 [pv c] H = some (pv x.1, H) := by
  rw [F51_eq]
  have hlen := h.sl.len
  simp only [List.length_map] at hlen
  have hpos : 0 < ms.length := List.length_pos_iff.2 hne
  obtain ⟨qq, _, hix, hld⟩ := h.sl.idx (j := ms.length - 1) (v := pv x.1) (by rw [List.getElem?_map, hx]; rfl)
  have hw : IntKind.i64.wrap ((ms.length : Int) - 1) = ((ms.length - 1 : Nat) : Int) := by rw [w64 (by omega)]; omega
  have L0 := ld1_pv c 0 H h.blk
  simp -implicitDefEqProofs [F51, nck_pv, fad_pv, L0, hlen, sub_int, hw, hix, hld H rfl]
/-- What a call may answer. -/
theorem may_runs (h : LinP H o c sm bm t ms cs ty inv) (hl : ms.length ≤ 65536) (hne : ms ≠ []) {k : Nat} {cl : CallV} (hk : CallR H o k cl) (hf : cl.frm ≤ ms.length) {r : ResV} {s : Value} (hs : SlR H o q s r.list) (hr : r.list.length ≤ 4194304) (hn : 4194304 < n) :
    ∃ H', run KG (n + 13) 53 [pv c, pv k, resA r s] H = some (.bool (may (ms.map fun x => x.2) cl r), H') ∧ Ext H H' := by
  rw [F53_eq]
  obtain ⟨rc, sc, tk, gk, ok, ⟨ac, mc, nc, esc⟩, htk⟩ := hk
  obtain ⟨a, m', es⟩ := hs.isSlice
  obtain ⟨H1, e1⟩ : ∃ z, z = H.new ⟨[pv k], 92, 1, false⟩ := ⟨_, rfl⟩
  have b1 := box1 92 (pv k) H rfl rfl
  rw [← e1] at b1
  have l1 : H1.length = H.length + 1 := by rw [e1, new_len]
  obtain ⟨H2, e2⟩ : ∃ z, z = H1.new ⟨resCells r s, 29, 1, false⟩ := ⟨_, rfl⟩
  have b2 := boxR r es H1
  rw [← e2, l1] at b2
  have x2 : Ext H H2 := by rw [e2, e1]; exact ((Ext.refl H).new _).new _
  have g1 : H2.get H.length = some ⟨[pv k], 92, 1, false⟩ := by rw [e2, get_new_lt (by omega), e1]; exact get_new
  have g2 : H2.get (H.length + 1) = some ⟨resCells r s, 29, 1, false⟩ := by
    have := get_new (H := H1) (c := ⟨resCells r s, 29, 1, false⟩)
    rw [l1, ← e2] at this; exact this
  have gk2 := x2.get gk
  have P0 := ld1_pv H.length 0 H2 g1
  have K5 : ld1 (.pointer (some ⟨k, 5, none⟩)) H2 = some (.bool cl.took.isSome) := ld1_pv k 5 H2 gk2
  have K0 := ld1_pv k 0 H2 gk2
  have R2 : ResR H2 (o.from H.length 0) q (resA r s) r := ⟨s, rfl, hs.fr (x2.fr o 0) (by simp)⟩
  unfold may
  cases ht : cl.took with
  | some w =>
    obtain ⟨e3, s3⟩ := htk w ht
    subst e3
    obtain ⟨H3, r3, x3⟩ := same_runs (G := KG) (n := n + 10) R2 (y := resA (ans w cl.op) sc) (rb := ans w cl.op) ⟨sc, rfl, s3.fr (x2.fr o 0) (by simp)⟩ (by omega) (by omega)
    refine ⟨H3, ?_, x2.trans x3⟩
    rw [ht] at K5
    simp -implicitDefEqProofs [F53, b1, b2, P0, nck_pv, fad_pv, K5, ld_6 _ _ _ g2, ldC6 gk2, r3]
  | none =>
    rw [ht] at K5
    have K0' : ld1 (pv k) H2 = some (cv cl.op.kind) := K0
    -- the first answer that is always right
    obtain ⟨H3, r3, x3⟩ := same_runs (G := KG) (n := n + 10) R2 (y := resA (resW 8) nils) (rb := resW 8) (o2 := o) (q2 := 0) ⟨nils, rfl, .nil⟩ (by omega) (by omega)
    have first : ∃ H4, Ext H2 H4 ∧ (if cl.op.kind ≤ 3 then run KG (n + 12) 63 [resA r s, resA (resW 8) nils] H2 = some (.bool (resEq r (resW 8)), H4) else H4 = H2) := by
      by_cases h3 : cl.op.kind ≤ 3
      · exact ⟨H3, x3, by rw [if_pos h3]; exact r3⟩
      · exact ⟨H2, .refl _, by rw [if_neg h3]⟩
    obtain ⟨H4, x4, r4⟩ := first
    have R4 : ResR H4 ((o.from H.length 0).from H2.length 0) q (resA r s) r := R2.ext x4
    obtain ⟨H5, r5, x5⟩ := same_runs (G := KG) (n := n + 10) R4 (y := resA (resW 9) nils) (rb := resW 9) (o2 := o) (q2 := 0) ⟨nils, rfl, .nil⟩ (by omega) (by omega)
    have second : ∃ H6, Ext H4 H6 ∧ (if cl.op.kind > 4 then run KG (n + 12) 63 [resA r s, resA (resW 9) nils] H4 = some (.bool (resEq r (resW 9)), H6) else H6 = H4) := by
      by_cases h3 : cl.op.kind > 4
      · exact ⟨H5, x5, by rw [if_pos h3]; exact r5⟩
      · exact ⟨H4, .refl _, by rw [if_neg h3]⟩
    obtain ⟨H6, x6, r6⟩ := second
    have x26 := x4.trans x6
    have xA := x2.trans x26
    have h6 := (h.fr (x2.fr o (-9))).fr (x26.fr _ (-9))
    -- the maps since then
    obtain ⟨qb, hbm⟩ : ∃ qb, bm = some qb := by
      cases bm with
      | none => obtain ⟨_, hh⟩ := h.sl; simp at hh; exact absurd hh hne
      | some qb => exact ⟨qb, rfl⟩
    subst hbm
    obtain ⟨cap, rest, ty', esm, gq, hc, _, _⟩ := h6.sl
    simp only [List.length_map] at esm hc
    have hcut : scut 1 H6 sm (some (cv cl.frm)) none = some (.slice (some ⟨qb, cl.frm, none⟩) (ms.length - cl.frm) (cap - cl.frm)) := by
      rw [esm]
      have k1 : (cl.frm : Int) ≤ (ms.length : Int) := by omega
      have k2 : ms.length ≤ cap := by omega
      simp [scut, boundOf, intOfV, gq, k1, k2]
    obtain ⟨H7, r7, x7⟩ := contains_runs (n := n + 1) (cap := cap) (c := cl) (r := r) (f := cl.frm) (b0 := H.length) (b1 := H.length + 1) rfl gq hf hl h6.maps (x26.get gk2) (x26.get g1) (x26.get g2) ((hs.fr (x2.fr o (-9)) (by simp)).fr (x26.fr _ (-9)) (by simp)) hr (by omega)
    have P4 := ld1_pv H.length 0 H4 (x4.get g1)
    have P6 := ld1_pv H.length 0 H6 (x26.get g1)
    have K4 := ld1_pv k 0 H4 (x4.get gk2)
    have K6 := ld1_pv k 4 H6 (x26.get gk2)
    have C6 := ld1_pv c 0 H6 h6.blk
    by_cases c1 : cl.op.kind ≤ 3 ∧ resEq r (resW 8) = true
    · rw [if_pos c1.1] at r4
      refine ⟨H4, ?_, x2.trans x4⟩
      rw [c1.2] at r4
      simp -implicitDefEqProofs [F53, b1, b2, P0, nck_pv, fad_pv, K5, K0, leq_int, c1.1, c1.2, ld_6 _ _ _ g2, abRw, r4, pick_bool]
    have d1 : (decide (cl.op.kind ≤ 3) && resEq r (resW 8)) = false := by
      cases hh : (decide (cl.op.kind ≤ 3) && resEq r (resW 8)) with
      | false => rfl
      | true => simp at hh; exact absurd hh c1
    by_cases c2 : cl.op.kind > 4 ∧ resEq r (resW 9) = true
    · have n3 : ¬ cl.op.kind ≤ 3 := by omega
      rw [if_neg n3] at r4
      subst r4
      rw [if_pos c2.1] at r6
      refine ⟨H6, ?_, x2.trans x26⟩
      rw [c2.2] at r6
      simp -implicitDefEqProofs [-gt_iff_lt, F53, b1, b2, P0, nck_pv, fad_pv, K5, K0, leq_int, n3, c2.1, c2.2, ld_6 _ _ _ g2, abRw, gtr_int, r6, pick_bool]
    have d2 : (decide (cl.op.kind > 4) && resEq r (resW 9)) = false := by
      cases hh : (decide (cl.op.kind > 4) && resEq r (resW 9)) with
      | false => rfl
      | true => simp at hh; exact absurd hh c2
    refine ⟨H7, ?_, xA.trans x7⟩
    rw [d1, d2]
    simp only [Bool.false_eq_true, if_false]
    obtain ⟨B, hB⟩ : ∃ B, B = ((ms.map fun x => x.2).drop cl.frm).any fun m => !trn m cl.op && resEq r (ans m cl.op) := ⟨_, rfl⟩
    rw [← hB] at r7 ⊢
    by_cases n3 : cl.op.kind ≤ 3
    · rw [if_pos n3] at r4
      have n4 : ¬ cl.op.kind > 4 := by omega
      rw [if_neg n4] at r6
      subst r6
      have f8 : resEq r (resW 8) = false := by simpa [n3] using d1
      rw [f8] at r4
      simp -implicitDefEqProofs [-gt_iff_lt, F53, b1, b2, P0, P4, P6, nck_pv, fad_pv, K5, K0, K4, K6, C6, leq_int, n3, n4, ld_6 _ _ _ g2, ld_6 _ _ _ (x4.get g2), abRw, gtr_int, r4, pick_bool, hcut, r7]
    · rw [if_neg n3] at r4
      subst r4
      by_cases n4 : cl.op.kind > 4
      · rw [if_pos n4] at r6
        have f9 : resEq r (resW 9) = false := by simpa [n4] using d2
        rw [f9] at r6
        simp -implicitDefEqProofs [-gt_iff_lt, F53, b1, b2, P0, P4, P6, nck_pv, fad_pv, K5, K0, K4, K6, C6, leq_int, n3, n4, ld_6 _ _ _ g2, ld_6 _ _ _ (x4.get g2), abRw, gtr_int, r6, pick_bool, hcut, r7]
      · rw [if_neg n4] at r6
        subst r6
        simp -implicitDefEqProofs [-gt_iff_lt, F53, b1, b2, P0, P4, P6, nck_pv, fad_pv, K5, K0, K4, K6, C6, leq_int, n3, n4, ld_6 _ _ _ g2, ld_6 _ _ _ (x4.get g2), abRw, gtr_int, pick_bool, hcut, r7]
end
end Go.Proofs.Ytgakioiplkehgaa.Fun
