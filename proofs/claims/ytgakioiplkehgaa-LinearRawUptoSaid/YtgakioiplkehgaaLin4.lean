
/- Results compared; ref1's Answer and After. Over the abstract machine. -/
import Derived.Test.YtgakioiplkehgaaFun0
import Derived.Test.YtgakioiplkehgaaFun1
import Derived.Test.YtgakioiplkehgaaFun2
import Derived.Test.YtgakioiplkehgaaFun3
import Derived.Test.YtgakioiplkehgaaLin3
namespace Go.Proofs.Ytgakioiplkehgaa.Fun
open Go Go.RowKit Go.Proofs.YtgakioiplkehgaaA.Am
set_option linter.unusedVariables false
set_option linter.unusedSimpArgs false
set_option linter.unnecessarySimpa false
section
variable {G : Oracle} {H : Heap} {o : Owner} {q : Int} {x : Value} {l : PL} {n p : Nat}
/-- slices.Equal. -/
theorem Equal_runs {o2 : Owner} {q2 : Int} {y : Value} {m : PL} (hx : SlR H o q x l) (hy : SlR H o2 q2 y m) (hl : l.length ≤ 4294967296) (hn : l.length < n) : run G (n + 1) 71 [x, y] H = some (.bool (decide (l = m)), H) := by
  rw [F71_eq]
  have hxl := hx.len
  have hyl := hy.len
  by_cases hlen : l.length = m.length
  · obtain ⟨r, hit, hne, hr⟩ := iter_go (step := F71_b0 (run G n) n)
      (Q := fun k vs H' => H' = H ∧ ∃ (i : Nat) (d14 d5 d24 : Value), i ≤ l.length ∧ k = l.length - i ∧ vs = [x, y, .bool false, .bool false, cv i, cv l.length, d14, d5, d24] ∧ l.take i = m.take i)
      (R := fun r => r.2.2 = H ∧ ∃ (d13 d14 d5 d24 : Value), r.2.1 = [x, y, .bool false, .bool false, d13, cv l.length, d14, d5, d24] ∧ ((r.1 = .exit 0 ∧ l = m) ∨ (r.1 = .ret ∧ l ≠ m)))
      (by
        rintro k vs H' ⟨rfl, i, d14, d5, d24, hi, rfl, rfl, hat⟩
        by_cases hlt : i < l.length
        · have h1 : (i : Int) < l.length := by omega
          have hlt2 : i < m.length := by omega
          obtain ⟨bi, bo, y0, hix, hy0, hbo, hbd⟩ := hx.idx hlt
          obtain ⟨d1, d2, d3⟩ := hbd _ hy0
          obtain ⟨bj, bjo, z0, hjx, hz0, hco, hcd⟩ := hy.idx hlt2
          obtain ⟨c1, c2, c3⟩ := hcd _ hz0
          have hw : IntKind.i64.wrap ((i : Int) + 1) = ((i + 1 : Nat) : Int) := by rw [w64 (by omega)]; omega
          by_cases he : l.getD i (0, 0) = m.getD i (0, 0)
          · have he' : ((l.getD i (0, 0)).1, (l.getD i (0, 0)).2) = ((m.getD i (0, 0)).1, (m.getD i (0, 0)).2) := he
            refine .inl ⟨_, _, l.length - (i + 1), by omega, ?_, rfl, i + 1, .bool true, cv i, .bool false, by omega, rfl, rfl, by rw [take_at hlt, take_at hlt2, hat, he]⟩
            simp -implicitDefEqProofs [-List.getD_eq_getElem?_getD, -Int.natCast_add, -Prod.mk.injEq, F71_b0_v, F71_b0v, lss_int, h1, hix, hjx, d3, c3, neP, he', add_int, hw, fin]
          · have he' : ¬ ((l.getD i (0, 0)).1, (l.getD i (0, 0)).2) = ((m.getD i (0, 0)).1, (m.getD i (0, 0)).2) := he
            refine .inr ⟨(.ret, [x, y, .bool false, .bool false, cv i, cv l.length, .bool true, cv i, .bool true], H'), ?_, by simp, rfl, _, _, _, _, rfl, .inr ⟨rfl, fun e => he (by rw [e])⟩⟩
            simp -implicitDefEqProofs [-List.getD_eq_getElem?_getD, -Int.natCast_add, -Prod.mk.injEq, F71_b0_v, F71_b0v, lss_int, h1, hix, hjx, d3, c3, neP, he', fin]
        · have h1 : ¬ (i : Int) < l.length := by omega
          rw [List.take_of_length_le (by omega), List.take_of_length_le (by omega)] at hat
          refine .inr ⟨(.exit 0, [x, y, .bool false, .bool false, cv i, cv l.length, .bool false, d5, d24], H'), ?_, by simp, rfl, _, _, _, _, rfl, .inl ⟨rfl, hat⟩⟩
          simp -implicitDefEqProofs [F71_b0_v, F71_b0v, lss_int, h1, fin])
      (l.length - 0) [x, y, .bool false, .bool false, cv (0 : Nat), cv l.length, undef, undef, undef] H ⟨rfl, 0, _, _, _, Nat.zero_le _, rfl, rfl, by simp⟩ n (by omega)
    obtain ⟨e, vs, H'⟩ := r
    simp only at hr
    obtain ⟨rfl, d13, d14, d5, d24, rfl, ⟨rfl, h⟩ | ⟨rfl, h⟩⟩ := hr
    · simp only [Int.natCast_zero] at hit
      rw [hlen] at hit
      rw [decide_eq_true h]
      simp -implicitDefEqProofs [F71, hxl, hyl, hlen, neq_int, hit, F71_j1_v, F71_j1v]
    · simp only [Int.natCast_zero] at hit
      rw [hlen] at hit
      rw [decide_eq_false h]
      simp -implicitDefEqProofs [F71, hxl, hyl, hlen, neq_int, hit, kBlk, kSeq, up, resK, resL, tupK]
      rfl
  · have h : ¬ l = m := fun e => hlen (by rw [e])
    have hlen' : ¬ (l.length : Int) = m.length := by omega
    rw [decide_eq_false h]
    simp -implicitDefEqProofs [F71, hxl, hyl, hlen', neq_int]
/-! results compared -/
theorem boxR (r : ResV) {s : Value} {a : Option Addr} {m c : Nat} (es : s = .slice a m c) (H : Heap) : boxS 29 (resA r s) H = some (pv H.length, H.new ⟨[cv r.why, .bool r.found, cv r.key, cv r.value, cv r.n, s], 29, 1, false⟩) := by
  subst es
  simp [boxS, Value.cells, oneCell, newBlk]
theorem ld2R {H : Heap} {b : Nat} {r : ResV} {s : Value} {t : TypeId} (h : H.get b = some ⟨[cv r.why, .bool r.found, cv r.key, cv r.value, cv r.n, s], t, 1, false⟩) : ldn 2 (.pointer (some ⟨b, 2, none⟩)) H = some (.agg #[cv r.key, cv r.value]) := by
  simp [ldn, ldCells, h]
theorem Results_runs {o2 : Owner} {q2 : Int} {y : Value} {ra rb : ResV} (hx : ResR H o q x ra) (hy : ResR H o2 q2 y rb) (hl : ra.list.length ≤ 4294967296) (hn : ra.list.length < n) :
    ∃ H', run G (n + 2) 12 [x, y] H = some (.bool (resEq ra rb), H') ∧ Ext H H' := by
  rw [F12_eq]
  obtain ⟨s, rfl, hs⟩ := hx
  obtain ⟨t, rfl, ht⟩ := hy
  obtain ⟨a1, c1, es⟩ := hs.isSlice
  obtain ⟨a2, c2, et⟩ := ht.isSlice
  have b1 := boxR ra es H
  obtain ⟨H1, e1⟩ : ∃ z, z = H.new ⟨[cv ra.why, .bool ra.found, cv ra.key, cv ra.value, cv ra.n, s], 29, 1, false⟩ := ⟨_, rfl⟩
  rw [← e1] at b1
  have l1 : H1.length = H.length + 1 := by rw [e1, new_len]
  have b2 := boxR rb et H1
  obtain ⟨H2, e2⟩ : ∃ z, z = H1.new ⟨[cv rb.why, .bool rb.found, cv rb.key, cv rb.value, cv rb.n, t], 29, 1, false⟩ := ⟨_, rfl⟩
  rw [← e2, l1] at b2
  have x2 : Ext H H2 := by rw [e2, e1]; exact ((Ext.refl H).new _).new _
  have g1 : H2.get H.length = some ⟨[cv ra.why, .bool ra.found, cv ra.key, cv ra.value, cv ra.n, s], 29, 1, false⟩ := by rw [e2, get_new_lt (by omega), e1]; exact get_new
  have g2 : H2.get (H.length + 1) = some ⟨[cv rb.why, .bool rb.found, cv rb.key, cv rb.value, cv rb.n, t], 29, 1, false⟩ := by
    have := get_new (H := H1) (c := ⟨[cv rb.why, .bool rb.found, cv rb.key, cv rb.value, cv rb.n, t], 29, 1, false⟩)
    rw [l1, ← e2] at this; exact this
  have hp := Pairs_runs (G := G) (n := n) (hs.fr (x2.fr o 0) (by simp)) (ht.fr (x2.fr o2 0) (by simp)) hl hn
  refine ⟨H2, ?_, x2⟩
  have A0 := ld1_pv H.length 0 H2 g1
  have A1 := ld1_pv H.length 1 H2 g1
  have A4 := ld1_pv H.length 4 H2 g1
  have A5 := ld1_pv H.length 5 H2 g1
  have B0 := ld1_pv (H.length + 1) 0 H2 g2
  have B1 := ld1_pv (H.length + 1) 1 H2 g2
  have B4 := ld1_pv (H.length + 1) 4 H2 g2
  have B5 := ld1_pv (H.length + 1) 5 H2 g2
  unfold resEq
  by_cases h1 : ra.why = rb.why
  case neg => simp -implicitDefEqProofs [F12, b1, b2, fad_pv, A0, B0, eql_int, h1, pick_bool]
  by_cases h2 : ra.found = rb.found
  case neg =>
    have h2' : (ra.found == rb.found) = false := by simpa using h2
    simp -implicitDefEqProofs [F12, b1, b2, fad_pv, A0, B0, A1, B1, eql_int, bool_eql _ _ blT, h1, h2', pick_bool]
  by_cases h3 : (ra.key, ra.value) = (rb.key, rb.value)
  case neg => simp -implicitDefEqProofs [-Prod.mk.injEq, F12, b1, b2, fad_pv, A0, B0, A1, B1, eql_int, bool_eql _ _ blT, h1, h2, pick_bool, ld2R g1, ld2R g2, eqP, h3]
  by_cases h4 : ra.n = rb.n
  case neg => simp -implicitDefEqProofs [-Prod.mk.injEq, F12, b1, b2, fad_pv, A0, B0, A1, B1, A4, B4, eql_int, bool_eql _ _ blT, h1, h2, pick_bool, ld2R g1, ld2R g2, eqP, h3, h4]
  simp -implicitDefEqProofs [-Prod.mk.injEq, F12, b1, b2, fad_pv, A0, B0, A1, B1, A4, B4, A5, B5, eql_int, bool_eql _ _ blT, h1, h2, pick_bool, ld2R g1, ld2R g2, eqP, h3, h4, hp]
/-- linear.same. -/
theorem same_runs {o2 : Owner} {q2 : Int} {y : Value} {ra rb : ResV} (hx : ResR H o q x ra) (hy : ResR H o2 q2 y rb) (hl : ra.list.length ≤ 4294967296) (hn : ra.list.length < n) :
    ∃ H', run G (n + 2) 63 [x, y] H = some (.bool (resEq ra rb), H') ∧ Ext H H' := by
  rw [F63_eq]
  obtain ⟨s, rfl, hs⟩ := hx
  obtain ⟨t, rfl, ht⟩ := hy
  obtain ⟨a1, c1, es⟩ := hs.isSlice
  obtain ⟨a2, c2, et⟩ := ht.isSlice
  have b1 := boxR ra es H
  obtain ⟨H1, e1⟩ : ∃ z, z = H.new ⟨[cv ra.why, .bool ra.found, cv ra.key, cv ra.value, cv ra.n, s], 29, 1, false⟩ := ⟨_, rfl⟩
  rw [← e1] at b1
  have l1 : H1.length = H.length + 1 := by rw [e1, new_len]
  have b2 := boxR rb et H1
  obtain ⟨H2, e2⟩ : ∃ z, z = H1.new ⟨[cv rb.why, .bool rb.found, cv rb.key, cv rb.value, cv rb.n, t], 29, 1, false⟩ := ⟨_, rfl⟩
  rw [← e2, l1] at b2
  have x2 : Ext H H2 := by rw [e2, e1]; exact ((Ext.refl H).new _).new _
  have g1 : H2.get H.length = some ⟨[cv ra.why, .bool ra.found, cv ra.key, cv ra.value, cv ra.n, s], 29, 1, false⟩ := by rw [e2, get_new_lt (by omega), e1]; exact get_new
  have g2 : H2.get (H.length + 1) = some ⟨[cv rb.why, .bool rb.found, cv rb.key, cv rb.value, cv rb.n, t], 29, 1, false⟩ := by
    have := get_new (H := H1) (c := ⟨[cv rb.why, .bool rb.found, cv rb.key, cv rb.value, cv rb.n, t], 29, 1, false⟩)
    rw [l1, ← e2] at this; exact this
  have hp := Equal_runs (G := G) (n := n) (hs.fr (x2.fr o 0) (by simp)) (ht.fr (x2.fr o2 0) (by simp)) hl hn
  refine ⟨H2, ?_, x2⟩
  have A0 := ld1_pv H.length 0 H2 g1
  have A1 := ld1_pv H.length 1 H2 g1
  have A4 := ld1_pv H.length 4 H2 g1
  have A5 := ld1_pv H.length 5 H2 g1
  have B0 := ld1_pv (H.length + 1) 0 H2 g2
  have B1 := ld1_pv (H.length + 1) 1 H2 g2
  have B4 := ld1_pv (H.length + 1) 4 H2 g2
  have B5 := ld1_pv (H.length + 1) 5 H2 g2
  unfold resEq
  by_cases h1 : ra.why = rb.why
  case neg => simp -implicitDefEqProofs [F63, b1, b2, fad_pv, A0, B0, eql_int, h1, pick_bool]
  by_cases h2 : ra.found = rb.found
  case neg =>
    have h2' : (ra.found == rb.found) = false := by simpa using h2
    simp -implicitDefEqProofs [F63, b1, b2, fad_pv, A0, B0, A1, B1, eql_int, bool_eql _ _ blT, h1, h2', pick_bool]
  by_cases h3 : (ra.key, ra.value) = (rb.key, rb.value)
  case neg => simp -implicitDefEqProofs [-Prod.mk.injEq, F63, b1, b2, fad_pv, A0, B0, A1, B1, eql_int, bool_eql _ _ blT, h1, h2, pick_bool, ld2R g1, ld2R g2, eqP, h3]
  by_cases h4 : ra.n = rb.n
  case neg => simp -implicitDefEqProofs [-Prod.mk.injEq, F63, b1, b2, fad_pv, A0, B0, A1, B1, A4, B4, eql_int, bool_eql _ _ blT, h1, h2, pick_bool, ld2R g1, ld2R g2, eqP, h3, h4]
  simp -implicitDefEqProofs [-Prod.mk.injEq, F63, b1, b2, fad_pv, A0, B0, A1, B1, A4, B4, A5, B5, eql_int, bool_eql _ _ blT, h1, h2, pick_bool, ld2R g1, ld2R g2, eqP, h3, h4, hp]
/-- ref1.Answer. -/
theorem rAnswer_runs (hx : SlR H o q x l) (hl : l.length ≤ 4194303) (op : OpV) (hn : 4194304 < n) :
    ∃ y H', run G (n + 4) 14 [x, opA op] H = some (y, H') ∧ ResR H' (nw H.length) 1 y (ansL l op) ∧ Ext H H' := by
  rw [F14_eq]
  have b1 := boxO op H
  obtain ⟨H1, e1⟩ : ∃ z, z = H.new ⟨[cv op.kind, cv op.key, cv op.value], 23, 1, false⟩ := ⟨_, rfl⟩
  rw [← e1] at b1
  have l1 : H1.length = H.length + 1 := by rw [e1, new_len]
  obtain ⟨H2, e2⟩ : ∃ z, z = H1.new ⟨[cv 0, .bool false, cv 0, cv 0, cv 0, nils], 29, 1, false⟩ := ⟨_, rfl⟩
  have l2 : H2.length = H.length + 2 := by rw [e2, new_len, l1]
  have x2 : Ext H H2 := by rw [e2, e1]; exact ((Ext.refl H).new _).new _
  have n2 : newBlk H1 29 1 [cv 0, .bool false, cv 0, cv 0, cv 0, nils] = (pv (H.length + 1), H2) := by rw [newR, e2, l1]
  have g1 : H2.get H.length = some ⟨[cv op.kind, cv op.key, cv op.value], 23, 1, false⟩ := by rw [e2, get_new_lt (by omega), e1]; exact get_new
  have g2 : H2.get (H.length + 1) = some ⟨[cv 0, .bool false, cv 0, cv 0, cv 0, nils], 29, 1, false⟩ := by
    have := get_new (H := H1) (c := ⟨[cv 0, .bool false, cv 0, cv 0, cv 0, nils], 29, 1, false⟩)
    rw [l1, ← e2] at this; exact this
  have P0 := ld1_pv H.length 0 H2 g1
  have P1 := ld1_pv H.length 1 H2 g1
  have P2 := ld1_pv H.length 2 H2 g1
  have hx2 := hx.fr (x2.fr o 0) (by simp)
  have hmap := RMapG_runs (G := G) (n := n + 2) hx2 (by omega) (by omega)
  unfold ansL
  by_cases hasc : Asc (keysOf l)
  case neg =>
    rw [if_neg hasc]
    rw [decide_eq_false hasc] at hmap
    obtain ⟨A, t1, t2, t3, sA⟩ := res_put (H0 := H) res0 (s := nils) rfl g2 rfl x2 (by omega)
    refine ⟨_, A, ?_, ⟨nils, rfl, .nil⟩, t3⟩
    simp -implicitDefEqProofs [F14, b1, n2, hmap, not_bool, abR0, t1, t2]
  rw [if_pos hasc]
  rw [decide_eq_true hasc] at hmap
  have fnd : ∀ (t : Int × Int × Bool) (Hx : Heap), Ext H2 Hx → ∃ H3, run G (n + 3) 27 [.agg #[cv t.1, cv t.2.1], .bool t.2.2] Hx = some (resA (resF t) nils, H3) ∧ ∃ A, stS 6 (pv (H.length + 1)) (resA (resF t) nils) H3 = some (undef, A) ∧ ldn 6 (pv (H.length + 1)) A = some (resA (resF t) nils) ∧ Ext H A := by
    intro t Hx hext
    obtain ⟨H3, r3, x3⟩ := rfound_runs (G := G) (n := n + 2) t.1 t.2.1 t.2.2 Hx
    obtain ⟨A, h1, h2, h3, _⟩ := res_put (H0 := H) (resF t) (s := nils) rfl (x3.get (hext.get g2)) rfl ((x2.trans hext).trans x3) (by omega)
    exact ⟨H3, r3, A, h1, h2, h3⟩
  have done : ∀ (t : Int × Int × Bool) (A : Heap), ResR A (nw H.length) 1 (resA (resF t) nils) (resF t) := fun t A => ⟨nils, rfl, by rw [resF_list]; exact .nil⟩
  have flo : ∀ k, ∃ Hx, run G (n + 3) 28 [x, cv k] H2 = some (tup2 (mfloor l k), Hx) ∧ Ext H2 Hx := fun k => by
    obtain ⟨Hx, r, s, z⟩ := RFloor_runs (G := G) (n := n + 1) hx2 (by omega) k (by omega)
    exact ⟨Hx, r, s, z⟩
  have cei : ∀ k, ∃ Hx, run G (n + 3) 29 [x, cv k] H2 = some (tup2 (mceil l k), Hx) ∧ Ext H2 Hx := fun k => by
    obtain ⟨Hx, r, s, z⟩ := RCeiling_runs (G := G) (n := n + 1) hx2 (by omega) k (by omega)
    exact ⟨Hx, r, s, z⟩
  have lst : ∃ xs H3, run G (n + 3) 30 [x, cv op.key, cv op.value] H2 = some (xs, H3) ∧ SlP H3 (nw H.length) 1 xs (rng op.key op.value l) ∧ Ext H2 H3 := by
    obtain ⟨xs, H3, r3, s3, sl3, z3⟩ := RRange_runs (G := G) (n := n + 2) hx2 (by omega) op.key op.value (by omega)
    exact ⟨xs, H3, r3, slp_le (slp_nw s3) (by omega), sl3, z3⟩
  by_cases k4 : op.kind = 1 ∨ op.kind = 2 ∨ op.kind = 3 ∨ op.kind = 4
  · have hget := RGet_runs (G := G) (n := n + 1) hx2 (by omega) op.key (by omega)
    obtain ⟨H3, r3, A, t1, t2, t3⟩ := fnd (op.key, mget l op.key, mhas l op.key) H2 (.refl _)
    refine ⟨_, A, ?_, by have := done (op.key, mget l op.key, mhas l op.key) A; unfold ans; rw [if_pos k4]; exact this, t3⟩
    simp only at r3 t1 t2
    rcases k4 with k | k | k | k <;>
    · simp -implicitDefEqProofs [F14, k, b1, n2, hmap, not_bool, fad_pv, P0, P1, eql_int, F14_j1_v, F14_j1v, hget, ext_i, abP, r3, t1, t2]
  have k1 : ¬ op.kind = 1 := fun h => k4 (.inl h)
  have k2 : ¬ op.kind = 2 := fun h => k4 (.inr (.inl h))
  have k3 : ¬ op.kind = 3 := fun h => k4 (.inr (.inr (.inl h)))
  have k4' : ¬ op.kind = 4 := fun h => k4 (.inr (.inr (.inr h)))
  by_cases k5 : op.kind = 5
  · obtain ⟨Hx, rx, ex⟩ := flo op.key
    obtain ⟨H3, r3, A, t1, t2, t3⟩ := fnd (mfloor l op.key) Hx ex
    refine ⟨_, A, ?_, by have := done (mfloor l op.key) A; unfold ans; rw [if_neg k4, if_pos k5]; exact this, t3⟩
    simp -implicitDefEqProofs [F14, k5, b1, n2, hmap, not_bool, fad_pv, P0, P1, eql_int, F14_j1_v, F14_j1v, rx, ext_i, r3, t1, t2]
  by_cases k6 : op.kind = 6
  · obtain ⟨Hx, rx, ex⟩ := cei op.key
    obtain ⟨H3, r3, A, t1, t2, t3⟩ := fnd (mceil l op.key) Hx ex
    refine ⟨_, A, ?_, by have := done (mceil l op.key) A; unfold ans; rw [if_neg k4, if_neg k5, if_pos k6]; exact this, t3⟩
    simp -implicitDefEqProofs [F14, k6, b1, n2, hmap, not_bool, fad_pv, P0, P1, eql_int, F14_j1_v, F14_j1v, rx, ext_i, r3, t1, t2]
  by_cases k7 : op.kind = 7
  · obtain ⟨Hx, rx, ex⟩ := cei (-9223372036854775808)
    obtain ⟨H3, r3, A, t1, t2, t3⟩ := fnd (mceil l (-9223372036854775808)) Hx ex
    refine ⟨_, A, ?_, by have := done (mceil l (-9223372036854775808)) A; unfold ans; rw [if_neg k4, if_neg k5, if_neg k6, if_pos k7]; exact this, t3⟩
    simp -implicitDefEqProofs [F14, k7, b1, n2, hmap, not_bool, fad_pv, P0, P1, eql_int, F14_j1_v, F14_j1v, rx, ext_i, r3, t1, t2]
  by_cases k8 : op.kind = 8
  · obtain ⟨Hx, rx, ex⟩ := flo 9223372036854775807
    obtain ⟨H3, r3, A, t1, t2, t3⟩ := fnd (mfloor l 9223372036854775807) Hx ex
    refine ⟨_, A, ?_, by have := done (mfloor l 9223372036854775807) A; unfold ans; rw [if_neg k4, if_neg k5, if_neg k6, if_neg k7, if_pos k8]; exact this, t3⟩
    simp -implicitDefEqProofs [F14, k8, b1, n2, hmap, not_bool, fad_pv, P0, P1, eql_int, F14_j1_v, F14_j1v, rx, ext_i, r3, t1, t2]
  by_cases k9 : op.kind = 9
  · obtain ⟨xs, H3, r3, s3, x3⟩ := lst
    obtain ⟨a, c, es⟩ := s3.isSlice
    obtain ⟨A, t1, t2, t3, sA⟩ := res_put (H0 := H) ⟨0, false, 0, 0, 0, rng op.key op.value l⟩ (s := xs) es (x3.get g2) rfl (x2.trans x3) (by omega)
    refine ⟨_, A, ?_, ⟨xs, by unfold ans; rw [if_neg k4, if_neg k5, if_neg k6, if_neg k7, if_neg k8, if_pos k9], ?_⟩, t3⟩
    · have ab := abRl a (rng op.key op.value l).length c
      rw [← es] at ab
      simp -implicitDefEqProofs [F14, k9, b1, n2, hmap, not_bool, fad_pv, P0, P1, P2, eql_int, F14_j1_v, F14_j1v, r3, ab, t1, t2]
    · unfold ans
      rw [if_neg k4, if_neg k5, if_neg k6, if_neg k7, if_neg k8, if_pos k9]
      refine (s3.mv (H' := A) (o' := nw H.length) fun i n c e => ⟨sA i ?_, rfl⟩).r
      rintro rfl
      exact s3.base_ne (x3.get g2) _ _ e
  by_cases k10 : op.kind = 10
  · obtain ⟨xs, H3, r3, s3, x3⟩ := lst
    obtain ⟨A, t1, t2, t3, _⟩ := res_put (H0 := H) ⟨0, false, 0, 0, (rng op.key op.value l).length, []⟩ (s := nils) rfl (x3.get g2) rfl (x2.trans x3) (by omega)
    refine ⟨_, A, ?_, ⟨nils, by unfold ans; rw [if_neg k4, if_neg k5, if_neg k6, if_neg k7, if_neg k8, if_neg k9, if_pos k10], by unfold ans; rw [if_neg k4, if_neg k5, if_neg k6, if_neg k7, if_neg k8, if_neg k9, if_pos k10]; exact .nil⟩, t3⟩
    simp -implicitDefEqProofs [F14, k10, b1, n2, hmap, not_bool, fad_pv, P0, P1, P2, eql_int, F14_j1_v, F14_j1v, r3, s3.len, abRn, t1, t2]
  · obtain ⟨A, t1, t2, t3, _⟩ := res_put (H0 := H) (resW 5) (s := nils) rfl g2 rfl x2 (by omega)
    refine ⟨_, A, ?_, ⟨nils, by unfold ans; rw [if_neg k4, if_neg k5, if_neg k6, if_neg k7, if_neg k8, if_neg k9, if_neg k10], by unfold ans; rw [if_neg k4, if_neg k5, if_neg k6, if_neg k7, if_neg k8, if_neg k9, if_neg k10]; exact .nil⟩, t3⟩
    simp -implicitDefEqProofs [F14, b1, n2, hmap, not_bool, fad_pv, P0, P1, P2, eql_int, k1, k2, k3, k4', k5, k6, k7, k8, k9, k10, F14_j1_v, F14_j1v, F14_j0_v, F14_j0v, abRw, t1, t2]
/-- A list copied. -/
theorem copy_runs (hx : SlR H o q x l) (hl : l.length ≤ 4194304) :
    ∃ y H', appS 26 2 16 (.slice (some ⟨H.length, 0, none⟩) 0 0) x (H.new ⟨[], 26, 2, false⟩) = some (y, H') ∧ SlP H' (nw H.length) 1 y l ∧ Ext H H' := by
  have h0 : SlR H (oI H) 0 x l := hx.relabel fun i hi _ => oI_lt hi
  obtain ⟨H1, e1⟩ : ∃ y, y = H.new ⟨[], 26, 2, false⟩ := ⟨_, rfl⟩
  have f1 : Fr H (oI H) H1 ((oI H).up H.length 1) [1] := by rw [e1]; exact (Fr.refl _ _ _).new _ _
  have x1 := h0.fr f1 (by simp)
  have s1 : SlP H1 ((oI H).up H.length 1) 1 (.slice (some ⟨H.length, 0, none⟩) 0 0) [] := .inr ⟨H.length, 0, [], 26, rfl, by rw [e1]; exact get_new, rfl, up_self⟩
  obtain ⟨x', H', o', ha, xs, f2, _⟩ := s1.app 26 x1.src (by simp; omega)
  rw [← e1]
  have fA := f1.tr f2
  refine ⟨x', H', ha, slp_nw fun Q => (newP (o := o) (by simpa using xs) fA Q).1, ⟨(newP (o := o) xs fA 0).2.1, fA.size⟩⟩
/-- ref1.After. -/
theorem rAfter_runs (hx : SlR H o q x l) (hl : l.length ≤ 4194303) (op : OpV) (hn : 4194304 < n) :
    ∃ y H', run G (n + 3) 17 [x, opA op] H = some (y, H') ∧ SlR H' (nw H.length) 1 y (aftL l op) ∧ Ext H H' := by
  rw [F17_eq]
  have b1 := boxO op H
  obtain ⟨H1, e1⟩ : ∃ z, z = H.new ⟨[cv op.kind, cv op.key, cv op.value], 23, 1, false⟩ := ⟨_, rfl⟩
  rw [← e1] at b1
  have l1 : H1.length = H.length + 1 := by rw [e1, new_len]
  have x1 : Ext H H1 := by rw [e1]; exact (Ext.refl H).new _
  have g1 : H1.get H.length = some ⟨[cv op.kind, cv op.key, cv op.value], 23, 1, false⟩ := by rw [e1]; exact get_new
  have P0 := ld1_pv H.length 0 H1 g1
  have P1 := ld1_pv H.length 1 H1 g1
  have P2 := ld1_pv H.length 2 H1 g1
  have hx1 := hx.fr (x1.fr o 0) (by simp)
  have hmap := RMapG_runs (G := G) (n := n + 1) hx1 (by omega) (by omega)
  unfold aftL
  by_cases hasc : Asc (keysOf l)
  case neg =>
    rw [if_neg hasc]
    rw [decide_eq_false hasc] at hmap
    refine ⟨nils, H1, ?_, .nil, x1⟩
    simp -implicitDefEqProofs [F17, b1, hmap, not_bool]
  rw [if_pos hasc]
  rw [decide_eq_true hasc] at hmap
  have hget := RGet_runs (G := G) (n := n) hx1 (by omega) op.key (by omega)
  have put : ∃ y H2, run G (n + 2) 22 [x, cv op.key, cv op.value] H1 = some (y, H2) ∧ SlR H2 (nw H.length) 1 y (mput l op.key op.value) ∧ Ext H H2 := by
    obtain ⟨y, H2, r2, s2, sl2, z2⟩ := RPut_runs (G := G) (n := n) hx1 hl op.key op.value (by omega)
    exact ⟨y, H2, r2, (slp_le (slp_nw s2) (by omega)).r, x1.trans ⟨sl2, z2⟩⟩
  have del : ∃ y H2, run G (n + 2) 33 [x, cv op.key] H1 = some (y, H2) ∧ SlR H2 (nw H.length) 1 y (mdel l op.key) ∧ Ext H H2 := by
    obtain ⟨y, H2, r2, s2, sl2, z2⟩ := RDel_runs (G := G) (n := n) hx1 hl op.key (by omega)
    exact ⟨y, H2, r2, (slp_le (slp_nw s2) (by omega)).r, x1.trans ⟨sl2, z2⟩⟩
  have cpy : ∃ y H2, appS 26 2 16 (.slice (some ⟨H1.length, 0, none⟩) 0 0) x (H1.new ⟨[], 26, 2, false⟩) = some (y, H2) ∧ SlR H2 (nw H.length) 1 y l ∧ Ext H H2 := by
    obtain ⟨y, H2, r2, s2, x2⟩ := copy_runs hx1 (by omega)
    exact ⟨y, H2, r2, (slp_le s2 (by omega)).r, x1.trans x2⟩
  have b0 := bsP0 H1
  unfold aft trn
  by_cases k1 : op.kind = 1
  · cases hh : mhas l op.key with
    | true =>
      obtain ⟨y, H2, r2, s2, x2⟩ := cpy
      rw [hh] at hget
      refine ⟨y, H2, ?_, by simpa [k1] using s2, x2⟩
      simp -implicitDefEqProofs [F17, b1, hmap, not_bool, fad_pv, P0, P1, P2, hget, ext_i, eql_int, k1, pick_bool, F17_j1_v, F17_j1v, F17_j0_v, F17_j0v, b0, r2]
    | false =>
      obtain ⟨y, H2, r2, s2, x2⟩ := put
      rw [hh] at hget
      refine ⟨y, H2, ?_, by simpa [k1] using s2, x2⟩
      simp -implicitDefEqProofs [F17, b1, hmap, not_bool, fad_pv, P0, P1, P2, hget, ext_i, eql_int, k1, pick_bool, F17_j1_v, F17_j1v, r2]
  by_cases k2 : op.kind = 2
  · obtain ⟨y, H2, r2, s2, x2⟩ := put
    refine ⟨y, H2, ?_, by simpa [k2] using s2, x2⟩
    simp -implicitDefEqProofs [F17, b1, hmap, not_bool, fad_pv, P0, P1, P2, hget, ext_i, eql_int, k2, pick_bool, F17_j1_v, F17_j1v, r2]
  by_cases k3 : op.kind = 3
  · obtain ⟨y, H2, r2, s2, x2⟩ := del
    refine ⟨y, H2, ?_, ?_, x2⟩
    · simp -implicitDefEqProofs [F17, b1, hmap, not_bool, fad_pv, P0, P1, P2, hget, ext_i, eql_int, k3, pick_bool, F17_j1_v, F17_j1v, r2]
    · cases hh : mhas l op.key with
      | true => simpa [k3] using s2
      | false => rw [mdel_no hh] at s2; simpa [k3] using s2
  · obtain ⟨y, H2, r2, s2, x2⟩ := cpy
    refine ⟨y, H2, ?_, by simpa [k1, k2, k3] using s2, x2⟩
    simp -implicitDefEqProofs [F17, b1, hmap, not_bool, fad_pv, P0, P1, P2, hget, ext_i, eql_int, k1, k2, k3, pick_bool, F17_j1_v, F17_j1v, F17_j0_v, F17_j0v, b0, r2]
end
end Go.Proofs.Ytgakioiplkehgaa.Fun
