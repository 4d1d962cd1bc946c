
/- linear's checker: what a call may answer. Over the abstract machine. -/
import Derived.Test.YtgakioiplkehgaaFun0
import Derived.Test.YtgakioiplkehgaaFun1
import Derived.Test.YtgakioiplkehgaaFun2
import Derived.Test.YtgakioiplkehgaaLinS
namespace Go.Proofs.Ytgakioiplkehgaa.Fun
open Go Go.RowKit Go.Proofs.YtgakioiplkehgaaA.Am
set_option linter.unusedVariables false
set_option linter.unusedSimpArgs false
set_option linter.unnecessarySimpa false
set_option maxRecDepth 10000
abbrev resCells (r : ResV) (s : Value) : List Value := [cv r.why, .bool r.found, cv r.key, cv r.value, cv r.n, s]
abbrev callCells (c : CallV) (r : ResV) (s : Value) : List Value := [cv c.op.kind, cv c.op.key, cv c.op.value, cv c.no, cv c.frm, .bool c.took.isSome, cv r.why, .bool r.found, cv r.key, cv r.value, cv r.n, s]
abbrev evCells (e : EvV) (s : Value) : List Value := [cv e.kind, cv e.thread, cv e.no, cv e.op.kind, cv e.op.key, cv e.op.value, cv e.res.why, .bool e.res.found, cv e.res.key, cv e.res.value, cv e.res.n, s, cv e.pick]
abbrev evA (e : EvV) (s : Value) : Value := .agg #[cv e.kind, cv e.thread, cv e.no, cv e.op.kind, cv e.op.key, cv e.op.value, cv e.res.why, .bool e.res.found, cv e.res.key, cv e.res.value, cv e.res.n, s, cv e.pick]
theorem uC : Try.prog.underlying 92 = some (.pointer 94) := by kernel_rfl
theorem fsz65 : (65 : Nat) < Try.prog.funcs.size := by decide +kernel
section
variable {H : Heap} {b : Nat} {t : TypeId} {c : CallV} {r : ResV} {e : EvV} {s : Value}
theorem ldC3 (h : H.get b = some ⟨callCells c r s, t, 1, false⟩) : ldn 3 (pv b) H = some (opA c.op) := by simp [ldn, ldCells, h]
theorem ldC6 (h : H.get b = some ⟨callCells c r s, t, 1, false⟩) : ldn 6 (.pointer (some ⟨b, 6, none⟩)) H = some (resA r s) := by simp [ldn, ldCells, h]
theorem ldE13 (h : H.get b = some ⟨evCells e s, t, 1, false⟩) : ldn 13 (pv b) H = some (evA e s) := by simp [ldn, ldCells, h]
theorem ldE6 (h : H.get b = some ⟨evCells e s, t, 1, false⟩) : ldn 6 (.pointer (some ⟨b, 6, none⟩)) H = some (resA e.res s) := by simp [ldn, ldCells, h]
theorem ldE3 (h : H.get b = some ⟨evCells e s, t, 1, false⟩) : ldn 3 (.pointer (some ⟨b, 3, none⟩)) H = some (opA e.op) := by simp [ldn, ldCells, h]
theorem boxE (e : EvV) {a : Option Addr} {m k : Nat} (es : s = .slice a m k) (H : Heap) : boxS 31 (evA e s) H = some (pv H.length, H.new ⟨evCells e s, 31, 1, false⟩) := by
  subst es
  simp [boxS, Value.cells, oneCell, newBlk]
theorem eqV_resA (r : ResV) {a : Option Addr} {m k : Nat} (es : s = .slice a m k) : eqV (resA r s) (resA r s) = true := by subst es; simp [eqV, eqV1, eqList]
theorem eqV_opA (op : OpV) : eqV (opA op) (opA op) = true := by simp [eqV, eqV1, eqList]
end
theorem ans_len {l : PL} {op : OpV} {K : Nat} (h : l.length ≤ K) : (ans l op).list.length ≤ K := by
  unfold ans
  have := rng_len op.key op.value l
  repeat' split
  all_goals first | (rw [resF_list]; simp; done) | (simp only [resW, List.length_nil]; omega) | omega
section
variable {H : Heap} {o : Owner} {q : Int} {n p : Nat} {l : PL}
/-- What a map would answer, and whether it would not turn. -/
theorem mayf_runs {c : CallV} {r rc : ResV} {s sc : Value} {k b0 b1 : Nat} {t0 t1 tk : TypeId} (hm : MapR H o p l) (hk : H.get k = some ⟨callCells c rc sc, tk, 1, false⟩) (h0 : H.get b0 = some ⟨[pv k], t0, 1, false⟩) (h1 : H.get b1 = some ⟨resCells r s, t1, 1, false⟩)
    (hs : SlR H o q s r.list) (hl : r.list.length ≤ 4194304) (hn : 4194304 < n) :
    ∃ H', run KG (n + 9) 65 [pv p, pv b0, pv b1] H = some (.bool (!trn l c.op && resEq r (ans l c.op)), H') ∧ Ext H H' := by
  rw [F65_eq]
  obtain ⟨H1, r1, x1⟩ := turns_runs (G := KG) (n := n + 2) hm c.op (by omega)
  have L0 := ld1_pv b0 0 H h0
  have L1 := ld1_pv b0 0 H1 (x1.get h0)
  obtain ⟨a, m', es⟩ := hs.isSlice
  cases ht : trn l c.op with
  | true =>
    rw [ht] at r1
    refine ⟨H1, ?_, x1⟩
    simp -implicitDefEqProofs [F65, L0, nck_pv, fad_pv, ldC3 hk, r1, not_bool, pick_bool]
  | false =>
    rw [ht] at r1
    obtain ⟨y, H2, r2, R2, x2⟩ := ans_runs (G := KG) (n := n) (hm.ext x1 0) c.op hn
    obtain ⟨H3, r3, x3⟩ := same_runs (G := KG) (n := n + 6) (x := resA r s) ⟨s, rfl, (hs.ext x1).ext x2⟩ R2 (by omega) (by omega)
    refine ⟨H3, ?_, (x1.trans x2).trans x3⟩
    have ev := eqV_resA r es
    simp -implicitDefEqProofs [F65, L0, L1, nck_pv, fad_pv, ldC3 hk, ldC3 (x1.get hk), ld_6 _ _ _ (x1.get h1), ld_6 _ _ _ (x2.get (x1.get h1)), r1, r2, r3, not_bool, pick_bool, ev]
/-- Is there one among some maps? -/
theorem contains_runs {c : CallV} {r rc : ResV} {s sc : Value} {k b0 b1 : Nat} {t0 t1 tk : TypeId} {ms : List (Nat × PL)} {sl : Value} {qb cap : Nat} {ty : TypeId} {rest : List Value} {f : Nat}
    (hsl : sl = .slice (some ⟨qb, f, none⟩) (ms.length - f) (cap - f)) (hq : H.get qb = some ⟨(ms.map fun x => pv x.1) ++ rest, ty, 1, false⟩) (hf : f ≤ ms.length) (hms : ms.length ≤ 65536) (hm : ∀ x ∈ ms, MapR H o x.1 x.2)
    (hk : H.get k = some ⟨callCells c rc sc, tk, 1, false⟩) (h0 : H.get b0 = some ⟨[pv k], t0, 1, false⟩) (h1 : H.get b1 = some ⟨resCells r s, t1, 1, false⟩)
    (hs : SlR H o q s r.list) (hl : r.list.length ≤ 4194304) (hn : 4194304 < n) :
    ∃ H', run KG (n + 11) 64 [sl, fnv 65 #[pv b0, pv b1]] H = some (.bool (((ms.map (·.2)).drop f).any fun m => !trn m c.op && resEq r (ans m c.op)), H') ∧ Ext H H' := by
  rw [F64_eq]
  have tst : ∀ x, x ∈ ms → ∀ H', Ext H H' → ∃ H'', run KG (n + 9) 65 [pv x.1, pv b0, pv b1] H' = some (.bool (!trn x.2 c.op && resEq r (ans x.2 c.op)), H'') ∧ Ext H H'' := fun x hx H' ex => by
    obtain ⟨H'', r1, x1⟩ := mayf_runs (n := n) ((hm x hx).ext ex 0) (ex.get hk) (ex.get h0) (ex.get h1) (hs.fr (ex.fr o 0) (by simp)) hl hn
    exact ⟨H'', r1, ex.trans x1⟩
  have key : ∃ (j : Int) (H' : Heap), run KG (n + 10) 72 [sl, fnv 65 #[pv b0, pv b1]] H = some (cv j, H') ∧ Ext H H' ∧ decide (j ≥ 0) = ((ms.map (·.2)).drop f).any fun m => !trn m c.op && resEq r (ans m c.op) := by
    rw [F72_eq]
    have hlen : slen sl = some (cv (ms.length - f : Nat)) := by rw [hsl]; rfl
    obtain ⟨r', hit, hne, x', hr⟩ := iter_go (step := F72_b0 (run KG (n + 9)) (n + 9))
      (Q := fun m vs H' => ∃ (i : Nat) (d9 d5 d16 : Value), f ≤ i ∧ i ≤ ms.length ∧ m = ms.length - i ∧ vs = [sl, fnv 65 #[pv b0, pv b1], cv 0, cv (i - f : Nat), cv (ms.length - f : Nat), d9, d5, d16] ∧ Ext H H' ∧ ∀ x ∈ (ms.take i).drop f, (!trn x.2 c.op && resEq r (ans x.2 c.op)) = false)
      (R := fun r' => Ext H r'.2.2 ∧ ∃ (d8 d9 d5 d16 : Value), ((r'.1 = .exit 0 ∧ r'.2.1 = [sl, fnv 65 #[pv b0, pv b1], cv 0, d8, cv (ms.length - f : Nat), d9, d5, d16] ∧ ∀ x ∈ ms.drop f, (!trn x.2 c.op && resEq r (ans x.2 c.op)) = false) ∨
        (r'.1 = .ret ∧ ∃ j : Nat, r'.2.1 = [sl, fnv 65 #[pv b0, pv b1], cv j, d8, cv (ms.length - f : Nat), d9, d5, d16] ∧ ∃ x ∈ ms.drop f, (!trn x.2 c.op && resEq r (ans x.2 c.op)) = true)))
      (by
        rintro m vs H' ⟨i, d9, d5, d16, hfi, hi, rfl, rfl, ex, hall⟩
        by_cases hlt : i < ms.length
        · have h1 : ((i - f : Nat) : Int) < (ms.length - f : Nat) := by omega
          have hix : iadS 1 sl (cv (i - f : Nat)) H' = some (.pointer (some ⟨qb, i, none⟩), H') := by
            rw [hsl]
            simp only [iadS]
            rw [if_pos (by constructor <;> omega)]
            simp <;> omega
          have hld : ld1 (.pointer (some ⟨qb, i, none⟩)) H' = some (pv ms[i].1) := by
            rw [ld1_pv _ _ _ (ex.get hq)]
            show ((ms.map fun x => pv x.1) ++ rest)[i]? = _
            rw [List.getElem?_append_left (by simpa using hlt)]
            simp [hlt]
          obtain ⟨H'', r1, x1⟩ := tst ms[i] (List.getElem_mem hlt) H' ex
          have hdy := dyn_f (C := run KG (n + 9)) (c := #[pv b0, pv b1]) (args := [pv ms[i].1]) (H := H') fsz65
          have hmem : ms[i] ∈ ms.drop f := by
            have : (ms.drop f)[i - f]? = some ms[i] := by rw [List.getElem?_drop, show f + (i - f) = i by omega, List.getElem?_eq_getElem hlt]
            exact List.mem_of_getElem? this
          have hw : IntKind.i64.wrap (((i - f : Nat) : Int) + 1) = ((i + 1 - f : Nat) : Int) := by rw [w64 (by omega)]; omega
          cases hc : (!trn ms[i].2 c.op && resEq r (ans ms[i].2 c.op)) with
          | true =>
            rw [hc] at r1
            refine .inr ⟨(.ret, [sl, fnv 65 #[pv b0, pv b1], cv (i - f : Nat), cv (i - f : Nat), cv (ms.length - f : Nat), .bool true, cv (i - f : Nat), .bool true], H''), ?_, by simp, x1, _, _, _, _, .inr ⟨rfl, i - f, rfl, ms[i], hmem, hc⟩⟩
            simp -implicitDefEqProofs [F72_b0_v, F72_b0v, lss_int, h1, hix, hld, hdy, r1, fin]
          | false =>
            rw [hc] at r1
            refine .inl ⟨_, H'', ms.length - (i + 1), by omega, ?_, i + 1, .bool true, cv (i - f : Nat), .bool false, by omega, by omega, rfl, rfl, x1, fun x hx => ?_⟩
            · simp -implicitDefEqProofs [F72_b0_v, F72_b0v, lss_int, h1, hix, hld, hdy, r1, add_int, hw, fin]
            · rw [List.take_add_one, List.getElem?_eq_getElem hlt, List.drop_append_of_le_length (by simp; omega)] at hx
              rcases List.mem_append.1 hx with hx | hx
              · exact hall x hx
              · have : x = ms[i] := by simpa using hx
                rw [this]; exact hc
        · have h1 : ¬ ((i - f : Nat) : Int) < (ms.length - f : Nat) := by omega
          rw [List.take_of_length_le (by omega)] at hall
          refine .inr ⟨(.exit 0, [sl, fnv 65 #[pv b0, pv b1], cv 0, cv (i - f : Nat), cv (ms.length - f : Nat), .bool false, d5, d16], H'), ?_, by simp, ex, _, _, _, _, .inl ⟨rfl, rfl, hall⟩⟩
          simp -implicitDefEqProofs [F72_b0_v, F72_b0v, lss_int, h1, fin])
      (ms.length - f) [sl, fnv 65 #[pv b0, pv b1], cv 0, cv (f - f : Nat), cv (ms.length - f : Nat), undef, undef, undef] H ⟨f, _, _, _, Nat.le_refl _, hf, rfl, rfl, .refl _, fun x hx => by
        have : (ms.take f).drop f = [] := List.drop_eq_nil_of_le (by simp; omega)
        rw [this] at hx; cases hx⟩ (n + 9) (by omega)
    obtain ⟨e, vs, H'⟩ := r'
    simp only at hr x'
    rw [Nat.sub_self, Int.natCast_zero] at hit
    obtain ⟨d8, d9, d5, d16, ⟨rfl, rfl, hall⟩ | ⟨rfl, j, rfl, x, hx, hc⟩⟩ := hr
    · refine ⟨-1, H', ?_, x', ?_⟩
      · simp -implicitDefEqProofs [F72, hlen, hit, F72_j1_v, F72_j1v]
      · symm
        rw [show decide ((-1 : Int) ≥ 0) = false from rfl, ← List.map_drop, List.any_eq_false]
        intro y hy
        obtain ⟨x, hx, rfl⟩ := List.mem_map.1 hy
        rw [hall x hx]; simp
    · refine ⟨j, H', ?_, x', ?_⟩
      · simp -implicitDefEqProofs [F72, hlen, hit, kBlk, kSeq, up, resK, resL, tupK]
        rfl
      · symm
        rw [decide_eq_true (show (j : Int) ≥ 0 by omega), ← List.map_drop, List.any_eq_true]
        exact ⟨x.2, List.mem_map_of_mem hx, hc⟩
  obtain ⟨j, H', r1, x1, hj⟩ := key
  refine ⟨H', ?_, x1⟩
  rw [← hj]
  simp -implicitDefEqProofs [-ge_iff_le, F64, r1, geq_int]
end
end Go.Proofs.Ytgakioiplkehgaa.Fun
