
/- linear's and ref1's Answer and After; results and lists compared. Over the abstract machine. -/
import Derived.Test.YtgakioiplkehgaaFun0
import Derived.Test.YtgakioiplkehgaaFun2
import Derived.Test.YtgakioiplkehgaaFun3
import Derived.Test.YtgakioiplkehgaaLin2
namespace Go.Proofs.Ytgakioiplkehgaa.Fun
open Go Go.RowKit Go.Proofs.YtgakioiplkehgaaA.Am
set_option linter.unusedVariables false
set_option linter.unusedSimpArgs false
set_option linter.unnecessarySimpa false
theorem blT : Try.prog.underlying 4 = some .bool := by kernel_rfl
theorem mdel_no {l : PL} {k : Int} (h : mhas l k = false) : mdel l k = l := by
  unfold mdel
  rw [h]
  simp
/-- What an operation answers of a list, that may be none. -/
def ansL (l : PL) (op : OpV) : ResV := if Asc (keysOf l) then ans l op else res0
def aftL (l : PL) (op : OpV) : PL := if Asc (keysOf l) then aft l op else []
def resEq (a b : ResV) : Bool := decide (a.why = b.why) && (a.found == b.found) && decide ((a.key, a.value) = (b.key, b.value)) && decide (a.n = b.n) && decide (a.list = b.list)
theorem resEq_self (a : ResV) : resEq a a = true := by simp [resEq]
section
variable {G : Oracle} {H : Heap} {o : Owner} {q : Int} {x : Value} {l : PL} {n p : Nat}
/-- turns. -/
theorem turns_runs (h : MapR H o p l) (op : OpV) (hn : 4194304 < n) : ∃ H', run G (n + 6) 48 [pv p, opA op] H = some (.bool (trn l op), H') ∧ Ext H H' := by
  rw [F48_eq]
  have b1 := boxO op H
  obtain ⟨H1, e1⟩ : ∃ z, z = H.new ⟨[cv op.kind, cv op.key, cv op.value], 23, 1, false⟩ := ⟨_, rfl⟩
  rw [← e1] at b1
  have x1 : Ext H H1 := by rw [e1]; exact (Ext.refl H).new _
  have g1 : H1.get H.length = some ⟨[cv op.kind, cv op.key, cv op.value], 23, 1, false⟩ := by rw [e1]; exact get_new
  have P0 := ld1_pv H.length 0 H1 g1
  have P1 := ld1_pv H.length 1 H1 g1
  have hget := Get_runs (G := G) (n := n) (h.ext x1 0) op.key hn
  refine ⟨H1, ?_, x1⟩
  unfold trn
  by_cases k1 : op.kind = 1
  · simp -implicitDefEqProofs [F48, b1, fad_pv, P0, P1, hget, ext_i, eql_int, k1, not_bool]
  by_cases k3 : op.kind = 3
  · simp -implicitDefEqProofs [F48, b1, fad_pv, P0, P1, hget, ext_i, eql_int, k3]
  · simp -implicitDefEqProofs [F48, b1, fad_pv, P0, P1, hget, ext_i, eql_int, k1, k3]
/-- after. -/
theorem after_runs (h : MapR H o p l) (hl : l.length < 4194304) (op : OpV) (hn : 4194304 < n) :
    ∃ p' H', run KG (n + 8) 32 [pv p, opA op] H = some (pv p', H') ∧ Ext H H' ∧ (trn l op = false → p' = p) ∧ (trn l op = true → H.length ≤ p' ∧ MapR H' (Owner.from (fun _ => -1) H.length p') p' (aft l op)) := by
  rw [F32_eq]
  have b1 := boxO op H
  obtain ⟨H1, e1⟩ : ∃ z, z = H.new ⟨[cv op.kind, cv op.key, cv op.value], 23, 1, false⟩ := ⟨_, rfl⟩
  rw [← e1] at b1
  have l1 : H1.length = H.length + 1 := by rw [e1, new_len]
  have x1 : Ext H H1 := by rw [e1]; exact (Ext.refl H).new _
  have g1 : H1.get H.length = some ⟨[cv op.kind, cv op.key, cv op.value], 23, 1, false⟩ := by rw [e1]; exact get_new
  have L1 := ldO g1
  have hpl := h.lt
  have m1 : MapR H1 ((Fun.oM o p).from H.length (-1)) p l := h.oM.ext x1 (-1)
  obtain ⟨H2, r2, x2⟩ := turns_runs (G := KG) (n := n + 1) m1 op (by omega)
  cases ht : trn l op with
  | false =>
    rw [ht] at r2
    refine ⟨p, H2, ?_, x1.trans x2, fun _ => rfl, fun h => by cases h⟩
    simp -implicitDefEqProofs [F32, b1, L1, r2, not_bool]
  | true =>
    rw [ht] at r2
    have m2 := m1.ext x2 (-1)
    obtain ⟨c, H3, o3, r3, m3, f3, hc⟩ := Clone_runs (G := KG) (n := n + 5) m2
    have hl2 := x2.size
    have g3 : H3.get H.length = some ⟨[cv op.kind, cv op.key, cv op.value], 23, 1, false⟩ := by rw [f3.same _ (by omega) (by simp)]; exact x2.get g1
    have P0 := ld1_pv H.length 0 H3 g3
    have P1 := ld1_pv H.length 1 H3 g3
    have P2 := ld1_pv H.length 2 H3 g3
    have old : ∀ i, i < H2.length → o3 i = (c : Int) → False := by
      intro i hi he
      rw [f3.own i hi] at he
      rcases Nat.lt_or_ge i H1.length with g | g
      · rw [from_lt g] at he
        rcases Nat.lt_or_ge i H.length with g' | g'
        · rw [from_lt g'] at he
          unfold Fun.oM at he
          split at he <;> omega
        · rw [from_ge g'] at he; omega
      · rw [from_ge g] at he; omega
    have x3 : Ext H2 H3 := Ext.of f3 fun i _ h => by simp at h
    by_cases k3 : op.kind = 3
    · obtain ⟨H4, r4, m4, f4⟩ := Del_runs (G := KG) (n := n + 3) m3 op.key (by omega)
      have x4 : Ext H2 H4 := x3.trans' f4 old
      refine ⟨c, H4, ?_, (x1.trans x2).trans x4, (fun h => by cases h), fun _ => ⟨by omega, ?_⟩⟩
      · simp -implicitDefEqProofs [F32, b1, L1, r2, not_bool, r3, fad_pv, P0, P1, P2, eql_int, k3, r4, F32_j0_v, F32_j0v]
      · unfold aft
        rw [ht, if_pos rfl, if_pos k3]
        exact m4.relabel fun i _ hi => from_ge (by
          rcases Nat.lt_or_ge i H2.length with g | g
          · exact absurd (old i g hi) id
          · omega)
    · obtain ⟨H4, o4, r4, m4, f4⟩ := Put_runs (n := n + 3) m3 op.key op.value hl (by omega)
      have x4 : Ext H2 H4 := x3.trans' f4 old
      refine ⟨c, H4, ?_, (x1.trans x2).trans x4, (fun h => by cases h), fun _ => ⟨by omega, ?_⟩⟩
      · simp -implicitDefEqProofs [F32, b1, L1, r2, not_bool, r3, fad_pv, P0, P1, P2, eql_int, k3, r4, F32_j0_v, F32_j0v]
      · unfold aft
        rw [ht, if_pos rfl, if_neg k3]
        exact m4.relabel fun i _ hi => from_ge (by
          rcases Nat.lt_or_ge i H2.length with g | g
          · rw [f4.own i (Nat.lt_of_lt_of_le g f3.size)] at hi
            exact absurd (old i g hi) id
          · omega)
/-- linear.Answer. -/
theorem lAnswer_runs (hx : SlR H o q x l) (hl : l.length ≤ 4194303) (op : OpV) (hn : 4194304 < n) :
    ∃ y H', run KG (n + 9) 13 [x, opA op] H = some (y, H') ∧ ResR H' (nw H.length) 1 y (ansL l op) ∧ Ext H H' := by
  rw [F13_eq]
  have b1 := boxO op H
  obtain ⟨H1, e1⟩ : ∃ z, z = H.new ⟨[cv op.kind, cv op.key, cv op.value], 23, 1, false⟩ := ⟨_, rfl⟩
  rw [← e1] at b1
  have l1 : H1.length = H.length + 1 := by rw [e1, new_len]
  obtain ⟨H2, e2⟩ : ∃ z, z = H1.new ⟨[cv 0, .bool false, cv 0, cv 0, cv 0, nils], 29, 1, false⟩ := ⟨_, rfl⟩
  have l2 : H2.length = H.length + 2 := by rw [e2, new_len, l1]
  have x2 : Ext H H2 := by rw [e2, e1]; exact ((Ext.refl H).new _).new _
  have n2 : newBlk H1 29 1 [cv 0, .bool false, cv 0, cv 0, cv 0, nils] = (pv (H.length + 1), H2) := by rw [newR, e2, l1]
  have g1 : H2.get H.length = some ⟨[cv op.kind, cv op.key, cv op.value], 23, 1, false⟩ := by rw [e2, get_new_lt (by omega), e1]; exact get_new
  have g2 : H2.get (H.length + 1) = some ⟨[cv 0, .bool false, cv 0, cv 0, cv 0, nils], 29, 1, false⟩ := by
    have := get_new (H := H1) (c := ⟨[cv 0, .bool false, cv 0, cv 0, cv 0, nils], 29, 1, false⟩)
    rw [l1, ← e2] at this; exact this
  obtain ⟨H3, r3, x3⟩ := read_runs (n := n + 3) (hx.fr (x2.fr o 0) (by simp)) hl (by omega)
  unfold ansL
  by_cases hasc : Asc (keysOf l)
  · rw [if_pos hasc] at r3
    rw [if_pos hasc]
    obtain ⟨r3, m3⟩ := r3
    obtain ⟨y, H4, r4, ⟨s, ey, s4⟩, x4⟩ := ans_runs (G := KG) (n := n) m3 op hn
    obtain ⟨a, c, es⟩ := s4.isSlice
    obtain ⟨A, t1, t2, t3, sA⟩ := res_put (H0 := H) (ans l op) (s := s) es (x4.get (x3.get g2)) rfl ((x2.trans x3).trans x4) (by omega)
    refine ⟨_, A, ?_, ⟨s, rfl, ?_⟩, t3⟩
    · simp -implicitDefEqProofs [F13, b1, n2, r3, ext_i, not_bool, ldO (x3.get g1), r4, ey, t1, t2]
    · have s5 := slr_le s4 (m := H2.length) x3.size
      refine (slr_le (m := H.length) (SlR.mv (H' := A) (o' := nw H2.length) s5 fun i hi ho => ⟨get_slot (sA i ?_), ho⟩) (by omega))
      have := nw_iff.1 ho
      omega
  · rw [if_neg hasc] at r3
    rw [if_neg hasc]
    obtain ⟨A, t1, t2, t3, sA⟩ := res_put (H0 := H) res0 (s := nils) rfl (x3.get g2) rfl (x2.trans x3) (by omega)
    refine ⟨_, A, ?_, ⟨nils, rfl, .nil⟩, t3⟩
    simp -implicitDefEqProofs [F13, b1, n2, r3, ext_i, not_bool, abR0, t1, t2]
/-- linear.After. -/
theorem lAfter_runs (hx : SlR H o q x l) (hl : l.length ≤ 4194303) (op : OpV) (hn : 4194304 < n) :
    ∃ y H', run KG (n + 9) 16 [x, opA op] H = some (y, H') ∧ SlR H' (nw H.length) 1 y (rng (-9223372036854775808) 9223372036854775807 (aftL l op)) ∧ Ext H H' := by
  rw [F16_eq]
  have b1 := boxO op H
  obtain ⟨H1, e1⟩ : ∃ z, z = H.new ⟨[cv op.kind, cv op.key, cv op.value], 23, 1, false⟩ := ⟨_, rfl⟩
  rw [← e1] at b1
  have l1 : H1.length = H.length + 1 := by rw [e1, new_len]
  have x1 : Ext H H1 := by rw [e1]; exact (Ext.refl H).new _
  have g1 : H1.get H.length = some ⟨[cv op.kind, cv op.key, cv op.value], 23, 1, false⟩ := by rw [e1]; exact get_new
  obtain ⟨H3, r3, x3⟩ := read_runs (n := n + 3) (hx.fr (x1.fr o 0) (by simp)) hl (by omega)
  unfold aftL
  by_cases hasc : Asc (keysOf l)
  · rw [if_pos hasc] at r3
    rw [if_pos hasc]
    obtain ⟨r3, m3⟩ := r3
    obtain ⟨p', H4, r4, x4, h0, h1⟩ := after_runs (n := n) m3 (by omega) op hn
    have hm4 : ∃ o4, MapR H4 o4 p' (aft l op) := by
      cases ht : trn l op with
      | false =>
        rw [h0 ht]
        have : aft l op = l := by unfold aft; rw [ht]; rfl
        rw [this]
        exact ⟨_, m3.ext x4 0⟩
      | true => exact ⟨_, (h1 ht).2⟩
    obtain ⟨o4, m4⟩ := hm4
    obtain ⟨y, H5, r5, s5, x5⟩ := list_runs (G := KG) (n := n + 2) m4 (-9223372036854775808) 9223372036854775807 (by omega)
    have s6 := (slp_nw s5).r
    have z4 := x4.size
    have z3 := x3.size
    refine ⟨y, H5, ?_, slr_le s6 (by omega), ((x1.trans x3).trans x4).trans x5⟩
    simp -implicitDefEqProofs [F16, b1, r3, ext_i, not_bool, ldO (x3.get g1), r4, r5]
  · rw [if_neg hasc] at r3
    rw [if_neg hasc]
    refine ⟨nils, H3, ?_, .nil, x1.trans x3⟩
    simp -implicitDefEqProofs [F16, b1, r3, ext_i, not_bool]
/-- ref1.Pairs. -/
theorem Pairs_runs {o2 : Owner} {q2 : Int} {y : Value} {m : PL} (hx : SlR H o q x l) (hy : SlR H o2 q2 y m) (hl : l.length ≤ 4294967296) (hn : l.length < n) : run G (n + 1) 15 [x, y] H = some (.bool (decide (l = m)), H) := by
  rw [F15_eq]
  have hxl := hx.len
  have hyl := hy.len
  by_cases hlen : l.length = m.length
  · obtain ⟨r, hit, hne, hr⟩ := iter_go (step := F15_b0 (run G n) n)
      (Q := fun k vs H' => H' = H ∧ ∃ (i : Nat) (d14 d25 : Value), i ≤ l.length ∧ k = l.length - i ∧ vs = [x, y, .bool false, .bool false, cv i, d14, d25] ∧ l.take i = m.take i)
      (R := fun r => r.2.2 = H ∧ ∃ (d5 d14 d25 : Value), r.2.1 = [x, y, .bool false, .bool false, d5, d14, d25] ∧ ((r.1 = .exit 0 ∧ l = m) ∨ (r.1 = .ret ∧ l ≠ m)))
      (by
        rintro k vs H' ⟨rfl, i, d14, d25, hi, rfl, rfl, hat⟩
        by_cases hlt : i < l.length
        · have h1 : (i : Int) < l.length := by omega
          have hlt2 : i < m.length := by omega
          obtain ⟨bi, bo, y0, hix, hy0, hbo, hbd⟩ := hx.idx hlt
          obtain ⟨d1, d2, d3⟩ := hbd _ hy0
          obtain ⟨bj, bjo, z0, hjx, hz0, hco, hcd⟩ := hy.idx hlt2
          obtain ⟨c1, c2, c3⟩ := hcd _ hz0
          have hw : IntKind.i64.wrap ((i : Int) + 1) = ((i + 1 : Nat) : Int) := by rw [w64 (by omega)]; omega
          by_cases he : l.getD i (0, 0) = m.getD i (0, 0)
          · have he' : ((l.getD i (0, 0)).1, (l.getD i (0, 0)).2) = ((m.getD i (0, 0)).1, (m.getD i (0, 0)).2) := he
            refine .inl ⟨_, _, l.length - (i + 1), by omega, ?_, rfl, i + 1, .bool true, .bool false, by omega, rfl, rfl, by rw [take_at hlt, take_at hlt2, hat, he]⟩
            simp -implicitDefEqProofs [-List.getD_eq_getElem?_getD, -Int.natCast_add, -Prod.mk.injEq, F15_b0_v, F15_b0v, hxl, lss_int, h1, hix, hjx, d3, c3, neP, he', add_int, hw, fin]
          · have he' : ¬ ((l.getD i (0, 0)).1, (l.getD i (0, 0)).2) = ((m.getD i (0, 0)).1, (m.getD i (0, 0)).2) := he
            refine .inr ⟨(.ret, [x, y, .bool false, .bool false, cv i, .bool true, .bool true], H'), ?_, by simp, rfl, _, _, _, rfl, .inr ⟨rfl, fun e => he (by rw [e])⟩⟩
            simp -implicitDefEqProofs [-List.getD_eq_getElem?_getD, -Int.natCast_add, -Prod.mk.injEq, F15_b0_v, F15_b0v, hxl, lss_int, h1, hix, hjx, d3, c3, neP, he', fin]
        · have h1 : ¬ (i : Int) < l.length := by omega
          rw [List.take_of_length_le (by omega), List.take_of_length_le (by omega)] at hat
          refine .inr ⟨(.exit 0, [x, y, .bool false, .bool false, cv i, .bool false, d25], H'), ?_, by simp, rfl, _, _, _, rfl, .inl ⟨rfl, hat⟩⟩
          simp -implicitDefEqProofs [F15_b0_v, F15_b0v, hxl, lss_int, h1, fin])
      (l.length - 0) [x, y, .bool false, .bool false, cv (0 : Nat), undef, undef] H ⟨rfl, 0, _, _, Nat.zero_le _, rfl, rfl, by simp⟩ n (by omega)
    obtain ⟨e, vs, H'⟩ := r
    simp only at hr
    obtain ⟨rfl, d5, d14, d25, rfl, ⟨rfl, h⟩ | ⟨rfl, h⟩⟩ := hr
    · simp only [Int.natCast_zero] at hit
      rw [decide_eq_true h]
      simp -implicitDefEqProofs [F15, hxl, hyl, hlen, neq_int, hit, F15_j1_v, F15_j1v]
    · simp only [Int.natCast_zero] at hit
      rw [decide_eq_false h]
      simp -implicitDefEqProofs [F15, hxl, hyl, hlen, neq_int, hit, kBlk, kSeq, up, resK, resL, tupK]
      rfl
  · have h : ¬ l = m := fun e => hlen (by rw [e])
    have hlen' : ¬ (l.length : Int) = m.length := by omega
    rw [decide_eq_false h]
    simp -implicitDefEqProofs [F15, hxl, hyl, hlen', neq_int]
end
end Go.Proofs.Ytgakioiplkehgaa.Fun
