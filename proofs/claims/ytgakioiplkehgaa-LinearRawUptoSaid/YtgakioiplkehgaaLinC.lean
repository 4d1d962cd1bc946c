
/- linear's checker: what a call may answer. Over the abstract machine. -/
import Derived.Test.YtgakioiplkehgaaFun0
import Derived.Test.YtgakioiplkehgaaFun1
import Derived.Test.YtgakioiplkehgaaFun2
import Derived.Test.YtgakioiplkehgaaFun3
import Derived.Test.YtgakioiplkehgaaLinS
namespace Go.Proofs.Ytgakioiplkehgaa.Fun
open Go Go.RowKit Go.Proofs.YtgakioiplkehgaaA.Am
set_option linter.unusedVariables false
set_option linter.unusedSimpArgs false
set_option linter.unnecessarySimpa false
set_option maxRecDepth 10000
abbrev resCells (r : ResV) (s : Value) : List Value := [cv r.why, .bool r.found, cv r.key, cv r.value, cv r.n, s]
abbrev callCells (c : CallV) (r : ResV) (s : Value) : List Value := [cv c.op.kind, cv c.op.key, cv c.op.value, cv c.no, cv c.frm, .bool c.took.isSome, cv r.why, .bool r.found, cv r.key, cv r.value, cv r.n, s]
abbrev evCells (e : EvV) (s : Value) : List Value := [cv e.kind, cv e.thread, cv e.no, cv e.op.kind, cv e.op.key, cv e.op.value, cv e.res.why, .bool e.res.found, cv e.res.key, cv e.res.value, cv e.res.n, s, cv e.pick]
abbrev evA (e : EvV) (s : Value) : Value := .agg #[cv e.kind, cv e.thread, cv e.no, cv e.op.kind, cv e.op.key, cv e.op.value, cv e.res.why, .bool e.res.found, cv e.res.key, cv e.res.value, cv e.res.n, s, cv e.pick]
theorem uC : Try.prog.underlying 92 = some (.pointer 94) := by kernel_rfl
theorem fsz65 : (65 : Nat) < Try.prog.funcs.size := by decide +kernel
section
variable {H : Heap} {b : Nat} {t : TypeId} {c : CallV} {r : ResV} {e : EvV} {s : Value}
theorem ldC3 (h : H.get b = some ⟨callCells c r s, t, 1, false⟩) : ldn 3 (pv b) H = some (opA c.op) := by simp [ldn, ldCells, h]
theorem ldC6 (h : H.get b = some ⟨callCells c r s, t, 1, false⟩) : ldn 6 (.pointer (some ⟨b, 6, none⟩)) H = some (resA r s) := by simp [ldn, ldCells, h]
theorem ldE13 (h : H.get b = some ⟨evCells e s, t, 1, false⟩) : ldn 13 (pv b) H = some (evA e s) := by simp [ldn, ldCells, h]
theorem ldE6 (h : H.get b = some ⟨evCells e s, t, 1, false⟩) : ldn 6 (.pointer (some ⟨b, 6, none⟩)) H = some (resA e.res s) := by simp [ldn, ldCells, h]
theorem ldE3 (h : H.get b = some ⟨evCells e s, t, 1, false⟩) : ldn 3 (.pointer (some ⟨b, 3, none⟩)) H = some (opA e.op) := by simp [ldn, ldCells, h]
theorem boxE (e : EvV) {a : Option Addr} {m k : Nat} (es : s = .slice a m k) (H : Heap) : boxS 31 (evA e s) H = some (pv H.length, H.new ⟨evCells e s, 31, 1, false⟩) := by
  subst es
  simp [boxS, Value.cells, oneCell, newBlk]
theorem eqV_resA (r : ResV) {a : Option Addr} {m k : Nat} (es : s = .slice a m k) : eqV (resA r s) (resA r s) = true := by subst es; simp [eqV, eqV1, eqList]
theorem eqV_opA (op : OpV) : eqV (opA op) (opA op) = true := by simp [eqV, eqV1, eqList]
end
theorem ans_len {l : PL} {op : OpV} {K : Nat} (h : l.length ≤ K) : (ans l op).list.length ≤ K := by
  unfold ans
  have := rng_len op.key op.value l
  repeat' split
  all_goals first | (rw [resF_list]; simp; done) | (simp only [resW, List.length_nil]; omega) | omega
section
variable {H : Heap} {o : Owner} {q : Int} {n p : Nat} {l : PL}
/-- What a map would answer, and whether it would not turn. -/
theorem mayf_runs {c : CallV} {r rc : ResV} {s sc : Value} {k b0 b1 : Nat} {t0 t1 tk : TypeId} (hm : MapR H o p l) (hk : H.get k = some ⟨callCells c rc sc, tk, 1, false⟩) (h0 : H.get b0 = some ⟨[pv k], t0, 1, false⟩) (h1 : H.get b1 = some ⟨resCells r s, t1, 1, false⟩)
    (hs : SlR H o q s r.list) (hl : r.list.length ≤ 4194304) (hn : 4194304 < n) :
    ∃ H', run KG (n + 9) 65 [pv p, pv b0, pv b1] H = some (.bool (!trn l c.op && resEq r (ans l c.op)), H') ∧ Ext H H' := by
  rw [F65_eq]
  obtain ⟨H1, r1, x1⟩ := turns_runs (G := KG) (n := n + 2) hm c.op (by omega)
  have L0 := ld1_pv b0 0 H h0
  have L1 := ld1_pv b0 0 H1 (x1.get h0)
  obtain ⟨a, m', es⟩ := hs.isSlice
  cases ht : trn l c.op with
  | true =>
    rw [ht] at r1
    refine ⟨H1, ?_, x1⟩
    simp -implicitDefEqProofs [F65, L0, nck_pv, fad_pv, ldC3 hk, r1, not_bool, pick_bool]
  | false =>
    rw [ht] at r1
    obtain ⟨y, H2, r2, R2, x2⟩ := ans_runs (G := KG) (n := n) (hm.ext x1 0) c.op hn
    obtain ⟨H3, r3, x3⟩ := same_runs (G := KG) (n := n + 6) (x := resA r s) ⟨s, rfl, (hs.ext x1).ext x2⟩ R2 (by omega) (by omega)
    refine ⟨H3, ?_, (x1.trans x2).trans x3⟩
    have ev := eqV_resA r es
    simp -implicitDefEqProofs [F65, L0, L1, nck_pv, fad_pv, ldC3 hk, ldC3 (x1.get hk), ld_6 _ _ _ (x1.get h1), ld_6 _ _ _ (x2.get (x1.get h1)), r1, r2, r3, not_bool, pick_bool, ev]
/-- Is there one among some maps? -/
theorem contains_runs {c : CallV} {r rc : ResV} {s sc : Value} {k b0 b1 : Nat} {t0 t1 tk : TypeId} {ms : List (Nat × PL)} {sl : Value} {qb cap : Nat} {ty : TypeId} {rest : List Value} {f : Nat}
    (hsl : sl = .slice (some ⟨qb, f, none⟩) (ms.length - f) (cap - f)) (hq : H.get qb = some ⟨(ms.map fun x => pv x.1) ++ rest, ty, 1, false⟩) (hf : f ≤ ms.length) (hms : ms.length ≤ 65536) (hm : ∀ x ∈ ms, MapR H o x.1 x.2)
    (hk : H.get k = some ⟨callCells c rc sc, tk, 1, false⟩) (h0 : H.get b0 = some ⟨[pv k], t0, 1, false⟩) (h1 : H.get b1 = some ⟨resCells r s, t1, 1, false⟩)
    (hs : SlR H o q s r.list) (hl : r.list.length ≤ 4194304) (hn : 4194304 < n) :
    ∃ H', run KG (n + 11) 64 [sl, fnv 65 #[pv b0, pv b1]] H = some (.bool (((ms.map (·.2)).drop f).any fun m => !trn m c.op && resEq r (ans m c.op)), H') ∧ Ext H H' := by
  rw [F64_eq]
  have tst : ∀ x, x ∈ ms → ∀ H', Ext H H' → ∃ H'', run KG (n + 9) 65 [pv x.1, pv b0, pv b1] H' = some (.bool (!trn x.2 c.op && resEq r (ans x.2 c.op)), H'') ∧ Ext H H'' := fun x hx H' ex => by
    obtain ⟨H'', r1, x1⟩ := mayf_runs (n := n) ((hm x hx).ext ex 0) (ex.get hk) (ex.get h0) (ex.get h1) (hs.fr (ex.fr o 0) (by simp)) hl hn
    exact ⟨H'', r1, ex.trans x1⟩
  have key : ∃ (j : Int) (H' : Heap), run KG (n + 10) 72 [sl, fnv 65 #[pv b0, pv b1]] H = some (cv j, H') ∧ Ext H H' ∧ decide (j ≥ 0) = ((ms.map (·.2)).drop f).any fun m => !trn m c.op && resEq r (ans m c.op) := by
    rw [F72_eq]
    have hlen : slen sl = some (cv (ms.length - f : Nat)) := by rw [hsl]; rfl
    obtain ⟨r', hit, hne, x', hr⟩ := iter_go (step := F72_b0 (run KG (n + 9)) (n + 9))
      (Q := fun m vs H' => ∃ (i : Nat) (d9 d5 d16 : Value), f ≤ i ∧ i ≤ ms.length ∧ m = ms.length - i ∧ vs = [sl, fnv 65 #[pv b0, pv b1], cv 0, cv (i - f : Nat), cv (ms.length - f : Nat), d9, d5, d16] ∧ Ext H H' ∧ ∀ x ∈ (ms.take i).drop f, (!trn x.2 c.op && resEq r (ans x.2 c.op)) = false)
      (R := fun r' => Ext H r'.2.2 ∧ ∃ (d8 d9 d5 d16 : Value), ((r'.1 = .exit 0 ∧ r'.2.1 = [sl, fnv 65 #[pv b0, pv b1], cv 0, d8, cv (ms.length - f : Nat), d9, d5, d16] ∧ ∀ x ∈ ms.drop f, (!trn x.2 c.op && resEq r (ans x.2 c.op)) = false) ∨
        (r'.1 = .ret ∧ ∃ j : Nat, r'.2.1 = [sl, fnv 65 #[pv b0, pv b1], cv j, d8, cv (ms.length - f : Nat), d9, d5, d16] ∧ ∃ x ∈ ms.drop f, (!trn x.2 c.op && resEq r (ans x.2 c.op)) = true)))
      (by
        rintro m vs H' ⟨i, d9, d5, d16, hfi, hi, rfl, rfl, ex, hall⟩
        by_cases hlt : i < ms.length
        · have h1 : ((i - f : Nat) : Int) < (ms.length - f : Nat) := by omega
          have hix : iadS 1 sl (cv (i - f : Nat)) H' = some (.pointer (some ⟨qb, i, none⟩), H') := by
            rw [hsl]
            simp only [iadS]
            rw [if_pos (by constructor <;> omega)]
            simp <;> omega
          have hld : ld1 (.pointer (some ⟨qb, i, none⟩)) H' = some (pv ms[i].1) := by
            rw [ld1_pv _ _ _ (ex.get hq)]
            show ((ms.map fun x => pv x.1) ++ rest)[i]? = _
            rw [List.getElem?_append_left (by simpa using hlt)]
            simp [hlt]
          obtain ⟨H'', r1, x1⟩ := tst ms[i] (List.getElem_mem hlt) H' ex
          have hdy := dyn_f (C := run KG (n + 9)) (c := #[pv b0, pv b1]) (args := [pv ms[i].1]) (H := H') fsz65
          have hmem : ms[i] ∈ ms.drop f := by
            have : (ms.drop f)[i - f]? = some ms[i] := by rw [List.getElem?_drop, show f + (i - f) = i by omega, List.getElem?_eq_getElem hlt]
            exact List.mem_of_getElem? this
          have hw : IntKind.i64.wrap (((i - f : Nat) : Int) + 1) = ((i + 1 - f : Nat) : Int) := by rw [w64 (by omega)]; omega
          cases hc : (!trn ms[i].2 c.op && resEq r (ans ms[i].2 c.op)) with
          | true =>
            rw [hc] at r1
            refine .inr ⟨(.ret, [sl, fnv 65 #[pv b0, pv b1], cv (i - f : Nat), cv (i - f : Nat), cv (ms.length - f : Nat), .bool true, cv (i - f : Nat), .bool true], H''), ?_, by simp, x1, _, _, _, _, .inr ⟨rfl, i - f, rfl, ms[i], hmem, hc⟩⟩
            simp -implicitDefEqProofs [F72_b0_v, F72_b0v, lss_int, h1, hix, hld, hdy, r1, fin]
          | false =>
            rw [hc] at r1
            refine .inl ⟨_, H'', ms.length - (i + 1), by omega, ?_, i + 1, .bool true, cv (i - f : Nat), .bool false, by omega, by omega, rfl, rfl, x1, fun x hx => ?_⟩
            · simp -implicitDefEqProofs [F72_b0_v, F72_b0v, lss_int, h1, hix, hld, hdy, r1, add_int, hw, fin]
            · rw [List.take_add_one, List.getElem?_eq_getElem hlt, List.drop_append_of_le_length (by simp; omega)] at hx
              rcases List.mem_append.1 hx with hx | hx
              · exact hall x hx
              · have : x = ms[i] := by simpa using hx
                rw [this]; exact hc
        · have h1 : ¬ ((i - f : Nat) : Int) < (ms.length - f : Nat) := by omega
          rw [List.take_of_length_le (by omega)] at hall
          refine .inr ⟨(.exit 0, [sl, fnv 65 #[pv b0, pv b1], cv 0, cv (i - f : Nat), cv (ms.length - f : Nat), .bool false, d5, d16], H'), ?_, by simp, ex, _, _, _, _, .inl ⟨rfl, rfl, hall⟩⟩
          simp -implicitDefEqProofs [F72_b0_v, F72_b0v, lss_int, h1, fin])
      (ms.length - f) [sl, fnv 65 #[pv b0, pv b1], cv 0, cv (f - f : Nat), cv (ms.length - f : Nat), undef, undef, undef] H ⟨f, _, _, _, Nat.le_refl _, hf, rfl, rfl, .refl _, fun x hx => by
        have : (ms.take f).drop f = [] := List.drop_eq_nil_of_le (by simp; omega)
        rw [this] at hx; cases hx⟩ (n + 9) (by omega)
    obtain ⟨e, vs, H'⟩ := r'
    simp only at hr x'
    rw [Nat.sub_self, Int.natCast_zero] at hit
    obtain ⟨d8, d9, d5, d16, ⟨rfl, rfl, hall⟩ | ⟨rfl, j, rfl, x, hx, hc⟩⟩ := hr
    · refine ⟨-1, H', ?_, x', ?_⟩
      · simp -implicitDefEqProofs [F72, hlen, hit, F72_j1_v, F72_j1v]
      · symm
        rw [show decide ((-1 : Int) ≥ 0) = false from rfl, ← List.map_drop, List.any_eq_false]
        intro y hy
        obtain ⟨x, hx, rfl⟩ := List.mem_map.1 hy
        rw [hall x hx]; simp
    · refine ⟨j, H', ?_, x', ?_⟩
      · simp -implicitDefEqProofs [F72, hlen, hit, kBlk, kSeq, up, resK, resL, tupK]
        rfl
      · symm
        rw [decide_eq_true (show (j : Int) ≥ 0 by omega), ← List.map_drop, List.any_eq_true]
        exact ⟨x.2, List.mem_map_of_mem hx, hc⟩
  obtain ⟨j, H', r1, x1, hj⟩ := key
  refine ⟨H', ?_, x1⟩
  rw [← hj]
  simp -implicitDefEqProofs [-ge_iff_le, F64, r1, geq_int]
end
end Go.Proofs.Ytgakioiplkehgaa.Fun
namespace Go.Proofs.Ytgakioiplkehgaa.Fun
open Go Go.RowKit Go.Proofs.YtgakioiplkehgaaA.Am
set_option linter.unusedVariables false
set_option linter.unusedSimpArgs false
set_option linter.unnecessarySimpa false
set_option maxRecDepth 10000
/-- A call under way. -/
def CallR (H : Heap) (o : Owner) (k : Nat) (c : CallV) : Prop :=
  ∃ (r : ResV) (s : Value) (ty : TypeId), H.get k = some ⟨callCells c r s, ty, 1, false⟩ ∧ o k = -22 ∧ (∃ a m n, s = .slice a m n) ∧ ∀ a, c.took = some a → r = ans a c.op ∧ SlR H o (-23) s r.list
theorem CallR.fr {H H' : Heap} {o o' : Owner} {k : Nat} {c : CallV} {ps : List Int} (h : CallR H o k c) (f : Fr H o H' o' ps) (h1 : (-22 : Int) ∉ ps) (h2 : (-23 : Int) ∉ ps) : CallR H' o' k c := by
  obtain ⟨r, s, ty, g, ok, hs, ht⟩ := h
  exact ⟨r, s, ty, by rw [f.same k (get_lt g) (by rw [ok]; exact h1)]; exact g, by rw [f.own k (get_lt g)]; exact ok, hs, fun a ha => ⟨(ht a ha).1, (ht a ha).2.fr f h2⟩⟩
/-- The checker's parts. -/
structure LinP (H : Heap) (o : Owner) (c : Nat) (sm : Value) (bm : Option Nat) (t : Nat) (ms : List (Nat × PL)) (cs : List (Int × Nat × CallV)) (ty : TypeId) (inv : Int) : Prop where
  blk : H.get c = some ⟨[sm, .map (some t), cv inv], ty, 1, false⟩
  oc : o c = -20
  tab : H.oth t = some (.tab .i64 (cs.map fun x => (x.1, pv x.2.1)))
  ot : o t = -24
  sl : Sl H o (-21) sm (ms.map fun x => pv x.1) bm
  maps : ∀ x ∈ ms, MapR H o x.1 x.2
  nd : (cs.map fun x => x.2.1).Nodup
  calls : ∀ x ∈ cs, CallR H o x.2.1 x.2.2
theorem oth_lt' {H : Heap} {i : Nat} {x : Other} (h : H.oth i = some x) : i < H.length := oth_lt h
theorem LinP.fr {H H' : Heap} {o o' : Owner} {c : Nat} {sm : Value} {bm : Option Nat} {t : Nat} {ms : List (Nat × PL)} {cs : List (Int × Nat × CallV)} {ty : TypeId} {inv : Int} (h : LinP H o c sm bm t ms cs ty inv) (f : Fr H o H' o' []) : LinP H' o' c sm bm t ms cs ty inv where
  blk := by rw [f.same c (get_lt h.blk) (by simp)]; exact h.blk
  oc := by rw [f.own c (get_lt h.blk)]; exact h.oc
  tab := by rw [f.oth t (oth_lt h.tab) (by simp)]; exact h.tab
  ot := by rw [f.own t (oth_lt h.tab)]; exact h.ot
  sl := h.sl.fr f (by simp)
  maps := fun x hx => (h.maps x hx).fr f (by simp)
  nd := h.nd
  calls := fun x hx => (h.calls x hx).fr f (by simp) (by simp)
def LinR (H : Heap) (o : Owner) (c : Nat) (S : StV) : Prop :=
  ∃ (sm : Value) (bm : Option Nat) (t : Nat) (ms : List (Nat × PL)) (cs : List (Int × Nat × CallV)) (ty : TypeId), LinP H o c sm bm t ms cs ty S.inv ∧ S.maps = ms.map (fun x => x.2) ∧ S.calls = cs.map (fun x => (x.1, x.2.2)) ∧ ms ≠ [] ∧ ∀ x ∈ cs, x.2.2.frm ≤ ms.length
theorem now_eq {S : StV} {ms : List (Nat × PL)} (h : S.maps = ms.map fun x => x.2) {x : Nat × PL} (hx : ms[ms.length - 1]? = some x) : S.now = x.2 := by
  unfold StV.now
  rw [h, List.length_map, List.getD_eq_getElem?_getD, List.getElem?_map, hx]; rfl
theorem last_ex {ms : List (Nat × PL)} (h : ms ≠ []) : ∃ x, ms[ms.length - 1]? = some x ∧ x ∈ ms := by
  have : 0 < ms.length := List.length_pos_iff.2 h
  exact ⟨_, List.getElem?_eq_getElem (by omega), List.getElem_mem _⟩
theorem bsM1 (k : Nat) (H : Heap) : abuildSlice Try.prog 52 1 [(0, pv k)] H = some (.slice (some ⟨H.length, 0, none⟩) 1 1, H.new ⟨[pv k], 48, 1, false⟩) := by kernel_rfl
theorem abC (op : OpV) (no f : Int) : abuild Try.prog 94 [(0, opA op), (1, cv no), (2, cv f)] = some (.agg #[cv op.kind, cv op.key, cv op.value, cv no, cv f, .bool false, cv 0, .bool false, cv 0, cv 0, cv 0, nils]) := by kernel_rfl
section
variable {G : Oracle} {H : Heap} {o : Owner} {q : Int} {n c : Nat} {sm : Value} {bm : Option Nat} {t : Nat} {ms : List (Nat × PL)} {cs : List (Int × Nat × CallV)} {ty : TypeId} {inv : Int}
theorem now_runs (h : LinP H o c sm bm t ms cs ty inv) (hl : ms.length ≤ 65536) {x : Nat × PL} (hx : ms[ms.length - 1]? = some x) (hne : ms ≠ []) : run G (n + 1) 51 [pv c] H = some (pv x.1, H) := by
  rw [F51_eq]
  have hlen := h.sl.len
  simp only [List.length_map] at hlen
  have hpos : 0 < ms.length := List.length_pos_iff.2 hne
  obtain ⟨qq, _, hix, hld⟩ := h.sl.idx (j := ms.length - 1) (v := pv x.1) (by rw [List.getElem?_map, hx]; rfl)
  have hw : IntKind.i64.wrap ((ms.length : Int) - 1) = ((ms.length - 1 : Nat) : Int) := by rw [w64 (by omega)]; omega
  have L0 := ld1_pv c 0 H h.blk
  simp -implicitDefEqProofs [F51, nck_pv, fad_pv, L0, hlen, sub_int, hw, hix, hld H rfl]
/-- What a call may answer. -/
theorem may_runs (h : LinP H o c sm bm t ms cs ty inv) (hl : ms.length ≤ 65536) (hne : ms ≠ []) {k : Nat} {cl : CallV} (hk : CallR H o k cl) (hf : cl.frm ≤ ms.length) {r : ResV} {s : Value} (hs : SlR H o q s r.list) (hr : r.list.length ≤ 4194304) (hn : 4194304 < n) :
    ∃ H', run KG (n + 13) 53 [pv c, pv k, resA r s] H = some (.bool (may (ms.map fun x => x.2) cl r), H') ∧ Ext H H' := by
  rw [F53_eq]
  obtain ⟨rc, sc, tk, gk, ok, ⟨ac, mc, nc, esc⟩, htk⟩ := hk
  obtain ⟨a, m', es⟩ := hs.isSlice
  obtain ⟨H1, e1⟩ : ∃ z, z = H.new ⟨[pv k], 92, 1, false⟩ := ⟨_, rfl⟩
  have b1 := box1 92 (pv k) H rfl rfl
  rw [← e1] at b1
  have l1 : H1.length = H.length + 1 := by rw [e1, new_len]
  obtain ⟨H2, e2⟩ : ∃ z, z = H1.new ⟨resCells r s, 29, 1, false⟩ := ⟨_, rfl⟩
  have b2 := boxR r es H1
  rw [← e2, l1] at b2
  have x2 : Ext H H2 := by rw [e2, e1]; exact ((Ext.refl H).new _).new _
  have g1 : H2.get H.length = some ⟨[pv k], 92, 1, false⟩ := by rw [e2, get_new_lt (by omega), e1]; exact get_new
  have g2 : H2.get (H.length + 1) = some ⟨resCells r s, 29, 1, false⟩ := by
    have := get_new (H := H1) (c := ⟨resCells r s, 29, 1, false⟩)
    rw [l1, ← e2] at this; exact this
  have gk2 := x2.get gk
  have P0 := ld1_pv H.length 0 H2 g1
  have K5 : ld1 (.pointer (some ⟨k, 5, none⟩)) H2 = some (.bool cl.took.isSome) := ld1_pv k 5 H2 gk2
  have K0 := ld1_pv k 0 H2 gk2
  have R2 : ResR H2 (o.from H.length 0) q (resA r s) r := ⟨s, rfl, hs.fr (x2.fr o 0) (by simp)⟩
  unfold may
  cases ht : cl.took with
  | some w =>
    obtain ⟨e3, s3⟩ := htk w ht
    subst e3
    obtain ⟨H3, r3, x3⟩ := same_runs (G := KG) (n := n + 10) R2 (y := resA (ans w cl.op) sc) (rb := ans w cl.op) ⟨sc, rfl, s3.fr (x2.fr o 0) (by simp)⟩ (by omega) (by omega)
    refine ⟨H3, ?_, x2.trans x3⟩
    rw [ht] at K5
    simp -implicitDefEqProofs [F53, b1, b2, P0, nck_pv, fad_pv, K5, ld_6 _ _ _ g2, ldC6 gk2, r3]
  | none =>
    rw [ht] at K5
    have K0' : ld1 (pv k) H2 = some (cv cl.op.kind) := K0
    -- the first answer that is always right
    obtain ⟨H3, r3, x3⟩ := same_runs (G := KG) (n := n + 10) R2 (y := resA (resW 8) nils) (rb := resW 8) (o2 := o) (q2 := 0) ⟨nils, rfl, .nil⟩ (by omega) (by omega)
    have first : ∃ H4, Ext H2 H4 ∧ (if cl.op.kind ≤ 3 then run KG (n + 12) 63 [resA r s, resA (resW 8) nils] H2 = some (.bool (resEq r (resW 8)), H4) else H4 = H2) := by
      by_cases h3 : cl.op.kind ≤ 3
      · exact ⟨H3, x3, by rw [if_pos h3]; exact r3⟩
      · exact ⟨H2, .refl _, by rw [if_neg h3]⟩
    obtain ⟨H4, x4, r4⟩ := first
    have R4 : ResR H4 ((o.from H.length 0).from H2.length 0) q (resA r s) r := R2.ext x4
    obtain ⟨H5, r5, x5⟩ := same_runs (G := KG) (n := n + 10) R4 (y := resA (resW 9) nils) (rb := resW 9) (o2 := o) (q2 := 0) ⟨nils, rfl, .nil⟩ (by omega) (by omega)
    have second : ∃ H6, Ext H4 H6 ∧ (if cl.op.kind > 4 then run KG (n + 12) 63 [resA r s, resA (resW 9) nils] H4 = some (.bool (resEq r (resW 9)), H6) else H6 = H4) := by
      by_cases h3 : cl.op.kind > 4
      · exact ⟨H5, x5, by rw [if_pos h3]; exact r5⟩
      · exact ⟨H4, .refl _, by rw [if_neg h3]⟩
    obtain ⟨H6, x6, r6⟩ := second
    have x26 := x4.trans x6
    have xA := x2.trans x26
    have h6 := (h.fr (x2.fr o (-9))).fr (x26.fr _ (-9))
    -- the maps since then
    obtain ⟨qb, hbm⟩ : ∃ qb, bm = some qb := by
      cases bm with
      | none => obtain ⟨_, hh⟩ := h.sl; simp at hh; exact absurd hh hne
      | some qb => exact ⟨qb, rfl⟩
    subst hbm
    obtain ⟨cap, rest, ty', esm, gq, hc, _, _⟩ := h6.sl
    simp only [List.length_map] at esm hc
    have hcut : scut 1 H6 sm (some (cv cl.frm)) none = some (.slice (some ⟨qb, cl.frm, none⟩) (ms.length - cl.frm) (cap - cl.frm)) := by
      rw [esm]
      have k1 : (cl.frm : Int) ≤ (ms.length : Int) := by omega
      have k2 : ms.length ≤ cap := by omega
      simp [scut, boundOf, intOfV, gq, k1, k2]
    obtain ⟨H7, r7, x7⟩ := contains_runs (n := n + 1) (cap := cap) (c := cl) (r := r) (f := cl.frm) (b0 := H.length) (b1 := H.length + 1) rfl gq hf hl h6.maps (x26.get gk2) (x26.get g1) (x26.get g2) ((hs.fr (x2.fr o (-9)) (by simp)).fr (x26.fr _ (-9)) (by simp)) hr (by omega)
    have P4 := ld1_pv H.length 0 H4 (x4.get g1)
    have P6 := ld1_pv H.length 0 H6 (x26.get g1)
    have K4 := ld1_pv k 0 H4 (x4.get gk2)
    have K6 := ld1_pv k 4 H6 (x26.get gk2)
    have C6 := ld1_pv c 0 H6 h6.blk
    by_cases c1 : cl.op.kind ≤ 3 ∧ resEq r (resW 8) = true
    · rw [if_pos c1.1] at r4
      refine ⟨H4, ?_, x2.trans x4⟩
      rw [c1.2] at r4
      simp -implicitDefEqProofs [F53, b1, b2, P0, nck_pv, fad_pv, K5, K0, leq_int, c1.1, c1.2, ld_6 _ _ _ g2, abRw, r4, pick_bool]
    have d1 : (decide (cl.op.kind ≤ 3) && resEq r (resW 8)) = false := by
      cases hh : (decide (cl.op.kind ≤ 3) && resEq r (resW 8)) with
      | false => rfl
      | true => simp at hh; exact absurd hh c1
    by_cases c2 : cl.op.kind > 4 ∧ resEq r (resW 9) = true
    · have n3 : ¬ cl.op.kind ≤ 3 := by omega
      rw [if_neg n3] at r4
      subst r4
      rw [if_pos c2.1] at r6
      refine ⟨H6, ?_, x2.trans x26⟩
      rw [c2.2] at r6
      simp -implicitDefEqProofs [-gt_iff_lt, F53, b1, b2, P0, nck_pv, fad_pv, K5, K0, leq_int, n3, c2.1, c2.2, ld_6 _ _ _ g2, abRw, gtr_int, r6, pick_bool]
    have d2 : (decide (cl.op.kind > 4) && resEq r (resW 9)) = false := by
      cases hh : (decide (cl.op.kind > 4) && resEq r (resW 9)) with
      | false => rfl
      | true => simp at hh; exact absurd hh c2
    refine ⟨H7, ?_, xA.trans x7⟩
    rw [d1, d2]
    simp only [Bool.false_eq_true, if_false]
    obtain ⟨B, hB⟩ : ∃ B, B = ((ms.map fun x => x.2).drop cl.frm).any fun m => !trn m cl.op && resEq r (ans m cl.op) := ⟨_, rfl⟩
    rw [← hB] at r7 ⊢
    by_cases n3 : cl.op.kind ≤ 3
    · rw [if_pos n3] at r4
      have n4 : ¬ cl.op.kind > 4 := by omega
      rw [if_neg n4] at r6
      subst r6
      have f8 : resEq r (resW 8) = false := by simpa [n3] using d1
      rw [f8] at r4
      simp -implicitDefEqProofs [-gt_iff_lt, F53, b1, b2, P0, P4, P6, nck_pv, fad_pv, K5, K0, K4, K6, C6, leq_int, n3, n4, ld_6 _ _ _ g2, ld_6 _ _ _ (x4.get g2), abRw, gtr_int, r4, pick_bool, hcut, r7]
    · rw [if_neg n3] at r4
      subst r4
      by_cases n4 : cl.op.kind > 4
      · rw [if_pos n4] at r6
        have f9 : resEq r (resW 9) = false := by simpa [n4] using d2
        rw [f9] at r6
        simp -implicitDefEqProofs [-gt_iff_lt, F53, b1, b2, P0, P4, P6, nck_pv, fad_pv, K5, K0, K4, K6, C6, leq_int, n3, n4, ld_6 _ _ _ g2, ld_6 _ _ _ (x4.get g2), abRw, gtr_int, r6, pick_bool, hcut, r7]
      · rw [if_neg n4] at r6
        subst r6
        simp -implicitDefEqProofs [-gt_iff_lt, F53, b1, b2, P0, P4, P6, nck_pv, fad_pv, K5, K0, K4, K6, C6, leq_int, n3, n4, ld_6 _ _ _ g2, ld_6 _ _ _ (x4.get g2), abRw, gtr_int, pick_bool, hcut, r7]
end
end Go.Proofs.Ytgakioiplkehgaa.Fun
namespace Go.Proofs.Ytgakioiplkehgaa.Fun
open Go Go.RowKit Go.Proofs.YtgakioiplkehgaaA.Am
set_option linter.unusedVariables false
set_option linter.unusedSimpArgs false
set_option linter.unnecessarySimpa false
set_option maxRecDepth 10000
/-- A log's event, its list. -/
def EvR (H : Heap) (o : Owner) (q : Int) (x : Value) (e : EvV) : Prop := ∃ s, x = evA e s ∧ SlR H o q s e.res.list
/-- What an event comes to. -/
def StepR (H : Heap) (o : Owner) (c : Nat) (S : StV) (e : EvV) (N : Nat) (f : FuncId) (x : Value) : Prop :=
  ∃ H' o', run KG N f [pv c, x] H = some (.bool (step S e).isSome, H') ∧ Fr H o H' o' [-20, -21, -22, -24] ∧ ∀ S', step S e = some S' → LinR H' o' c S'
theorem mlook_no {H : Heap} {t : Nat} {es : List (Int × Value)} {n : Int} {z : Value} (h : H.oth t = some (.tab .i64 es)) (hf : es.find? (fun e => e.1 == n) = none) : mlook .i64 z false (.map (some t)) (cv n) H = some z := by
  simp [mlook, h, hf]
theorem mlook_yes {H : Heap} {t : Nat} {es : List (Int × Value)} {n : Int} {z : Value} {x : Int × Value} (h : H.oth t = some (.tab .i64 es)) (hf : es.find? (fun e => e.1 == n) = some x) : mlook .i64 z false (.map (some t)) (cv n) H = some x.2 := by
  simp [mlook, h, hf]
theorem tab_find {cs : List (Int × Nat × CallV)} {n : Int} : (cs.map fun x => (x.1, pv x.2.1)).find? (fun e => e.1 == n) = (cs.find? fun e => e.1 == n).map fun x => (x.1, pv x.2.1) := by
  rw [List.find?_map]; rfl
theorem tab_kidx {cs : List (Int × Nat × CallV)} {n : Int} : kidx (cs.map fun x => (x.1, x.2.2)) n = kidx cs n := kidx_map _ cs n
theorem tab_idx {cs : List (Int × Nat × CallV)} {n : Int} : (cs.map fun x => (x.1, pv x.2.1)).findIdx? (fun e => e.1 == n) = kidx cs n := by
  unfold kidx; rw [List.findIdx?_map]; rfl
section
variable {H : Heap} {o : Owner} {q : Int} {n c : Nat} {S : StV} {e : EvV} {x : Value}
/-- Loaded. -/
theorem loaded_runs (h : LinR H o c S) (he : EvR H o q x e) (hl : e.res.list.length ≤ 4194303) (hms : S.maps.length ≤ 65000) (hk : e.kind = 4) (hn : 4194304 < n) : StepR H o c S e (n + 18) 34 x := by
  obtain ⟨sm, bm, t, ms, cs, ty, hp, em, ec, hne, hfr⟩ := h
  obtain ⟨s, rfl, hs⟩ := he
  have hml : ms.length ≤ 65000 := by rw [em] at hms; simpa using hms
  obtain ⟨a, m', es⟩ := hs.isSlice
  unfold StepR
  rw [F34_eq]
  have b1 := boxE e es H
  obtain ⟨H1, e1⟩ : ∃ z, z = H.new ⟨evCells e s, 31, 1, false⟩ := ⟨_, rfl⟩
  rw [← e1] at b1
  have x1 : Ext H H1 := by rw [e1]; exact (Ext.refl H).new _
  have f1 := x1.fr o (-9)
  have g1 : H1.get H.length = some ⟨evCells e s, 31, 1, false⟩ := by rw [e1]; exact get_new
  have l1 : H1.length = H.length + 1 := by rw [e1, new_len]
  have L11 := ld1_pv H.length 11 H1 g1
  obtain ⟨H2, r2, x2⟩ := read_runs (n := n + 12) (hs.fr f1 (by simp)) hl (by omega)
  have p1 := hp.fr f1
  unfold step
  rw [if_pos hk]
  by_cases hasc : Asc (keysOf e.res.list)
  case neg =>
    rw [if_neg hasc] at r2
    refine ⟨H2, _, ?_, (f1.wk (by simp)).tr0 (x2.fr _ (-9)), fun S' h' => ?_⟩
    · rw [if_neg (by rintro ⟨h, _⟩; exact hasc h)]
      simp -implicitDefEqProofs [F34, b1, fad_pv, L11, r2, ext_i, not_bool, pick_bool]
    · rw [if_neg (by rintro ⟨h, _⟩; exact hasc h)] at h'; cases h'
  rw [if_pos hasc] at r2
  obtain ⟨r2, m2⟩ := r2
  have f2 := x2.fr (o.from H.length (-9)) H1.length
  have p2 := p1.fr f2
  have f12 : Fr H o H2 ((o.from H.length (-9)).from H1.length H1.length) [-20, -21, -22, -24] := (f1.wk (by simp)).tr0 f2
  have C1 := ld1_pv c 1 H2 p2.blk
  have C0 := ld1_pv c 0 H2 p2.blk
  have mlen2 : mlen (.map (some t)) H2 = some (cv cs.length) := by simp [mlen, p2.tab]
  by_cases hcs : cs = []
  case neg =>
    have hpos : 0 < cs.length := List.length_pos_iff.2 hcs
    have hpos' : (cs.length : Int) > 0 := by omega
    have hne' : ¬ S.calls = [] := by rw [ec]; simpa using hcs
    refine ⟨H2, _, ?_, f12, fun S' h' => ?_⟩
    · rw [if_neg (by rintro ⟨_, h, _⟩; exact hne' h)]
      simp -implicitDefEqProofs [-gt_iff_lt, F34, b1, fad_pv, L11, r2, ext_i, not_bool, pick_bool, nck_pv, C1, mlen2, gtr_int, hpos, hpos']
    · rw [if_neg (by rintro ⟨_, h, _⟩; exact hne' h)] at h'; cases h'
  subst hcs
  simp only [List.length_nil, Int.natCast_zero] at mlen2
  obtain ⟨y, hy, hym⟩ := last_ex hne
  have rnow := now_runs (G := KG) (n := n + 16) p2 (by omega) hy hne
  have rlen := Len_runs (G := KG) (n := n + 16) (p2.maps y hym)
  have hnow := now_eq em hy
  by_cases hz : y.2 = []
  case neg =>
    have hpos : 0 < y.2.length := List.length_pos_iff.2 hz
    have hpos' : (y.2.length : Int) > 0 := by omega
    refine ⟨H2, _, ?_, f12, fun S' h' => ?_⟩
    · rw [if_neg (by rintro ⟨_, _, h⟩; rw [hnow] at h; exact hz h)]
      simp -implicitDefEqProofs [-gt_iff_lt, F34, b1, fad_pv, L11, r2, ext_i, not_bool, pick_bool, nck_pv, C1, mlen2, gtr_int, rnow, rlen, hpos, hpos']
    · rw [if_neg (by rintro ⟨_, _, h⟩; rw [hnow] at h; exact hz h)] at h'; cases h'
  rw [hz] at rlen
  simp only [List.length_nil, Int.natCast_zero] at rlen
  have hcond : Asc (keysOf e.res.list) ∧ S.calls = [] ∧ S.now = [] := ⟨hasc, by rw [ec]; rfl, by rw [hnow]; exact hz⟩
  rw [if_pos hcond]
  have bs := bsM1 H1.length H2
  obtain ⟨H3, e3⟩ : ∃ z, z = H2.new ⟨[pv H1.length], 48, 1, false⟩ := ⟨_, rfl⟩
  rw [← e3] at bs
  have x3 : Ext H2 H3 := by rw [e3]; exact (Ext.refl H2).new _
  have g3 : H3.get H2.length = some ⟨[pv H1.length], 48, 1, false⟩ := by rw [e3]; exact get_new
  have f3 := x3.fr ((o.from H.length (-9)).from H1.length H1.length) (-9)
  have p3 := p2.fr f3
  have m3 := m2.fr f3 (by simp)
  obtain ⟨s', H4, o4, b4, ra, sl4, f4, ow4⟩ := p3.sl.app1 (tE := 48) (by_ := 8) g3 rfl (by omega) (by simp; omega)
  have blk4 : H4.get c = some ⟨[sm, .map (some t), cv S.inv], ty, 1, false⟩ := by rw [f4.same c (get_lt p3.blk) (by rw [p3.oc]; simp)]; exact p3.blk
  have oc4 : o4 c = -20 := by rw [f4.own c (get_lt p3.blk)]; exact p3.oc
  have st := st_1 c 0 s' H4 blk4 rfl (by simp) (by obtain ⟨a, k, c, rfl⟩ := sl4.isSlice; rfl) (by obtain ⟨a, k, c, rfl⟩ := sl4.isSlice; rfl) (by obtain ⟨a, k, c, rfl⟩ := sl4.isSlice; rfl)
  simp only [List.set_cons_zero] at st
  obtain ⟨H5, e5⟩ : ∃ z, z = H4.put c ⟨[s', .map (some t), cv S.inv], ty, 1, false⟩ := ⟨_, rfl⟩
  rw [← e5] at st
  have f5 : Fr H4 o4 H5 o4 [-20] := by rw [e5]; exact (Fr.refl _ _ _).put fun _ => by simp [oc4]
  refine ⟨H5, o4, ?_, ((f12.tr0 f3).tr (f4.wk (by simp))).tr (f5.wk (by simp)), fun S' h' => ?_⟩
  · simp -implicitDefEqProofs [-gt_iff_lt, F34, b1, fad_pv, L11, r2, ext_i, not_bool, pick_bool, nck_pv, C1, C0, mlen2, gtr_int, rnow, rlen, bs, ra, st]
  · cases h'
    have tab4 : H4.oth t = some (.tab .i64 []) := by rw [f4.oth t (oth_lt p3.tab) (by rw [p3.ot]; simp)]; exact p3.tab
    refine ⟨s', b4, t, ms ++ [(H1.length, e.res.list)], [], ty, ⟨by rw [e5]; exact get_put blk4, by rw [f5.own c (get_lt blk4)]; exact oc4, ?_, ?_, ?_, ?_, .nil, fun y hy => by cases hy⟩, by simp [em], by simp [hcond.2.1], by simp, fun y hy => by cases hy⟩
    · rw [f5.oth t (oth_lt tab4) (by rw [f4.own t (oth_lt p3.tab), p3.ot]; simp)]
      exact tab4
    · rw [f5.own t (oth_lt tab4), f4.own t (oth_lt p3.tab)]; exact p3.ot
    · have := sl4.fr f5 (by simp)
      simpa using this
    · intro y hy
      rcases List.mem_append.1 hy with hy | hy
      · exact ((p3.maps y hy).fr f4 (by simp)).fr f5 (by simp)
      · have : y = (H1.length, e.res.list) := by simpa using hy
        subst this
        exact (m3.fr f4 (by simp)).fr f5 (by simp)
/-- Invoked. -/
theorem begun_runs (h : LinR H o c S) (he : EvR H o q x e) (hms : S.maps.length ≤ 65000) (hk : e.kind = 1) : StepR H o c S e (n + 18) 35 x := by
  obtain ⟨sm, bm, t, ms, cs, ty, hp, em, ec, hne, hfr⟩ := h
  obtain ⟨s, rfl, hs⟩ := he
  have hml : ms.length ≤ 65000 := by rw [em] at hms; simpa using hms
  have hpos : 0 < ms.length := List.length_pos_iff.2 hne
  obtain ⟨a, m', es⟩ := hs.isSlice
  unfold StepR
  rw [F35_eq]
  have b1 := boxE e es H
  obtain ⟨H1, e1⟩ : ∃ z, z = H.new ⟨evCells e s, 31, 1, false⟩ := ⟨_, rfl⟩
  rw [← e1] at b1
  have x1 : Ext H H1 := by rw [e1]; exact (Ext.refl H).new _
  have f1 := x1.fr o (-9)
  have g1 : H1.get H.length = some ⟨evCells e s, 31, 1, false⟩ := by rw [e1]; exact get_new
  have p1 := hp.fr f1
  have E0 : ld1 (.pointer (some ⟨H.length, 1, none⟩)) H1 = some (cv e.thread) := ld1_pv H.length 1 H1 g1
  have E2 : ld1 (.pointer (some ⟨H.length, 2, none⟩)) H1 = some (cv e.no) := ld1_pv H.length 2 H1 g1
  have E3 : ld1 (.pointer (some ⟨H.length, 3, none⟩)) H1 = some (cv e.op.kind) := ld1_pv H.length 3 H1 g1
  have C1 : ld1 (.pointer (some ⟨c, 1, none⟩)) H1 = some (.map (some t)) := ld1_pv c 1 H1 p1.blk
  have C2 : ld1 (.pointer (some ⟨c, 2, none⟩)) H1 = some (cv S.inv) := ld1_pv c 2 H1 p1.blk
  have hkx : kidx S.calls e.thread = kidx cs e.thread := by rw [ec]; exact tab_kidx
  have f1' : Fr H o H1 (o.from H.length (-9)) [-20, -21, -22, -24] := f1.wk (by simp)
  unfold step
  rw [if_neg (by omega), if_pos hk, hkx]
  have bad : (e.thread < 0 ∨ (kidx cs e.thread).isSome = true ∨ e.op.kind < 1 ∨ e.op.kind > 10 ∨ e.no ≠ S.inv) →
      F35 (run KG (n + 17)) (n + 17) (pv c) (evA e s) H = some (.bool false, H1) := by
    intro hbad
    by_cases k1 : e.thread < 0
    · simp -implicitDefEqProofs [F35, b1, fad_pv, E0, lss_int, k1, pick_bool]
    cases hx : kidx cs e.thread with
    | some j =>
      obtain ⟨y, hy1, hy2, hy3⟩ := kidx_some hx
      have ml := mlook_yes (z := .pointer none) p1.tab (n := e.thread) (x := (y.1, pv y.2.1)) (by rw [tab_find, hy3]; rfl)
      simp -implicitDefEqProofs [F35, b1, fad_pv, nck_pv, E0, C1, lss_int, k1, pick_bool, ml, ptr_neq_nil _ uC]
    | none =>
      have ml := mlook_no (z := .pointer none) p1.tab (n := e.thread) (by rw [tab_find, kidx_none hx]; rfl)
      by_cases k2 : e.op.kind < 1
      · simp -implicitDefEqProofs [F35, b1, fad_pv, nck_pv, E0, E3, C1, lss_int, k1, k2, pick_bool, ml, ptr_neq_nil _ uC]
      by_cases k3 : e.op.kind > 10
      · simp -implicitDefEqProofs [-gt_iff_lt, F35, b1, fad_pv, nck_pv, E0, E3, C1, lss_int, gtr_int, k1, k2, k3, pick_bool, ml, ptr_neq_nil _ uC]
      · have k4 : ¬ e.no = S.inv := by
          rcases hbad with g | g | g | g | g
          · exact absurd g k1
          · rw [hx] at g; simp at g
          · exact absurd g k2
          · exact absurd g k3
          · exact g
        simp -implicitDefEqProofs [-gt_iff_lt, F35, b1, fad_pv, nck_pv, E0, E2, E3, C1, C2, lss_int, gtr_int, neq_int, k1, k2, k3, k4, pick_bool, ml, ptr_neq_nil _ uC]
  by_cases hc : e.thread < 0 ∨ (kidx cs e.thread).isSome = true ∨ e.op.kind < 1 ∨ e.op.kind > 10 ∨ e.no ≠ S.inv
  · rw [if_pos hc]
    exact ⟨H1, _, bad hc, f1', fun S' h' => by cases h'⟩
  rw [if_neg hc]
  have k1 : ¬ e.thread < 0 := fun h => hc (.inl h)
  have kx : kidx cs e.thread = none := by
    cases hx : kidx cs e.thread with
    | none => rfl
    | some j => exact absurd (.inr (.inl (by rw [hx]; rfl))) hc
  have k2 : ¬ e.op.kind < 1 := fun h => hc (.inr (.inr (.inl h)))
  have k3 : ¬ e.op.kind > 10 := fun h => hc (.inr (.inr (.inr (.inl h))))
  have k4 : e.no = S.inv := Classical.byContradiction fun h => hc (.inr (.inr (.inr (.inr h))))
  have ml := mlook_no (z := .pointer none) p1.tab (n := e.thread) (by rw [tab_find, kidx_none kx]; rfl)
  have nq : abin Try.prog .neq 3 (cv e.no) (cv S.inv) = some (.bool false) := by rw [neq_int, k4]; simp
  -- the count turns
  obtain ⟨iv, eiv⟩ : ∃ iv, iv = IntKind.i64.wrap (S.inv + 1) := ⟨_, rfl⟩
  have st2 := st_1 c 2 (cv iv) H1 p1.blk rfl (by simp) rfl rfl rfl
  obtain ⟨H2, e2⟩ : ∃ z, z = H1.put c ⟨[sm, .map (some t), cv iv], ty, 1, false⟩ := ⟨_, rfl⟩
  have st2' : stS 1 (.pointer (some ⟨c, 2, none⟩)) (cv iv) H1 = some (undef, H2) := by rw [e2]; exact st2
  have f2 : Fr H1 (o.from H.length (-9)) H2 (o.from H.length (-9)) [-20] := by rw [e2]; exact (Fr.refl _ _ _).put fun _ => by simp [p1.oc]
  have blk2 : H2.get c = some ⟨[sm, .map (some t), cv iv], ty, 1, false⟩ := by rw [e2]; exact get_put p1.blk
  have hcl := get_lt hp.blk
  have g2 : H2.get H.length = some ⟨evCells e s, 31, 1, false⟩ := by rw [e2, get_put_ne (by omega)]; exact g1
  have tab2 : H2.oth t = some (.tab .i64 (cs.map fun x => (x.1, pv x.2.1))) := by rw [f2.oth t (oth_lt p1.tab) (by rw [p1.ot]; simp)]; exact p1.tab
  have sl2 := p1.sl.fr f2 (by simp)
  have D1 : ld1 (.pointer (some ⟨c, 1, none⟩)) H2 = some (.map (some t)) := ld1_pv c 1 H2 blk2
  have D0 : ld1 (pv c) H2 = some sm := ld1_pv c 0 H2 blk2
  have D0' : ld1 (.pointer (some ⟨c, 0 + 0, none⟩)) H2 = some sm := D0
  have E0' : ld1 (.pointer (some ⟨H.length, 1, none⟩)) H2 = some (cv e.thread) := ld1_pv H.length 1 H2 g2
  have E2' : ld1 (.pointer (some ⟨H.length, 2, none⟩)) H2 = some (cv e.no) := ld1_pv H.length 2 H2 g2
  have hsl := sl2.len
  simp only [List.length_map] at hsl
  have hw : IntKind.i64.wrap ((ms.length : Int) - 1) = ((ms.length - 1 : Nat) : Int) := by rw [w64 (by omega)]; omega
  -- the call
  obtain ⟨cl, ecl⟩ : ∃ cl : CallV, cl = ⟨e.op, e.no, ms.length - 1, none⟩ := ⟨_, rfl⟩
  have ab : abuild Try.prog 94 [(0, opA e.op), (1, cv e.no), (2, cv (ms.length - 1 : Nat))] = some (.agg #[cv e.op.kind, cv e.op.key, cv e.op.value, cv e.no, cv (ms.length - 1 : Nat), .bool false, cv 0, .bool false, cv 0, cv 0, cv 0, nils]) := abC _ _ _
  obtain ⟨H3, e3⟩ : ∃ z, z = H2.new ⟨callCells cl res0 nils, 94, 1, false⟩ := ⟨_, rfl⟩
  have bx : boxS 94 (.agg #[cv e.op.kind, cv e.op.key, cv e.op.value, cv e.no, cv (ms.length - 1 : Nat), .bool false, cv 0, .bool false, cv 0, cv 0, cv 0, nils]) H2 = some (pv H2.length, H3) := by
    rw [e3, ecl]; simp [boxS, Value.cells, oneCell, newBlk, res0]; rfl
  have f3 : Fr H2 (o.from H.length (-9)) H3 ((o.from H.length (-9)).up H2.length (-22)) [] := by rw [e3]; exact (Fr.refl _ _ _).new _ _
  have g3 : H3.get H2.length = some ⟨callCells cl res0 nils, 94, 1, false⟩ := by rw [e3]; exact get_new
  have tab3 : H3.oth t = some (.tab .i64 (cs.map fun x => (x.1, pv x.2.1))) := by rw [f3.oth t (oth_lt tab2) (by simp)]; exact tab2
  have blk3 : H3.get c = some ⟨[sm, .map (some t), cv iv], ty, 1, false⟩ := by rw [f3.same c (get_lt blk2) (by simp)]; exact blk2
  have D1' : ld1 (.pointer (some ⟨c, 1, none⟩)) H3 = some (.map (some t)) := ld1_pv c 1 H3 blk3
  have g2' : H3.get H.length = some ⟨evCells e s, 31, 1, false⟩ := by rw [f3.same _ (get_lt g2) (by simp)]; exact g2
  have E0'' : ld1 (.pointer (some ⟨H.length, 1, none⟩)) H3 = some (cv e.thread) := ld1_pv H.length 1 H3 g2'
  have put : Go.Proofs.YtgakioiplkehgaaA.Am.mput .i64 (.map (some t)) (cv e.thread) (pv H2.length) H3 = some (undef, H3.putO t (.tab .i64 ((cs ++ [(e.thread, H2.length, cl)]).map fun x => (x.1, pv x.2.1)))) := by
    have : tput (cs.map fun x => (x.1, pv x.2.1)) e.thread (pv H2.length) = (cs ++ [(e.thread, H2.length, cl)]).map fun x => (x.1, pv x.2.1) := by
      unfold tput
      rw [tab_idx, kx]; simp
    simp [Go.Proofs.YtgakioiplkehgaaA.Am.mput, tab3, this]
  obtain ⟨H4, e4⟩ : ∃ z, z = H3.putO t (.tab .i64 ((cs ++ [(e.thread, H2.length, cl)]).map fun x => (x.1, pv x.2.1))) := ⟨_, rfl⟩
  rw [← e4] at put
  have ot3 : ((o.from H.length (-9)).up H2.length (-22)) t = -24 := by rw [f3.own t (oth_lt tab2)]; exact p1.ot
  have f4 : Fr H3 ((o.from H.length (-9)).up H2.length (-22)) H4 ((o.from H.length (-9)).up H2.length (-22)) [-24] := by rw [e4]; exact (Fr.refl _ _ _).putO fun _ => by simp [ot3]
  have evm : eqV (.map (some t)) (.map (some t)) = true := by simp [eqV, eqV1]
  refine ⟨H4, (o.from H.length (-9)).up H2.length (-22), ?_, ((f1'.tr (f2.wk (by simp))).tr0 f3).tr (f4.wk (by simp)), fun S' h' => ?_⟩
  · simp -implicitDefEqProofs [-gt_iff_lt, F35, b1, fad_pv, nck_pv, E0, E2, E3, C1, C2, lss_int, gtr_int, nq, k1, k2, k3, pick_bool, ml, ptr_neq_nil _ uC, add_int, ← eiv, st2', D1, D1', D0, E0', E2', E0'', ldE3 g2, hsl, sub_int, hw, ab, bx, put, evm]
  · cases h'
    have cs2 : ∀ y ∈ cs, CallR H4 ((o.from H.length (-9)).up H2.length (-22)) y.2.1 y.2.2 := fun y hy => (((p1.calls y hy).fr f2 (by simp) (by simp)).fr f3 (by simp) (by simp)).fr f4 (by simp) (by simp)
    refine ⟨sm, bm, t, ms, cs ++ [(e.thread, H2.length, cl)], ty, ⟨?_, ?_, ?_, ?_, ?_, ?_, ?_, ?_⟩, em, ?_, hne, ?_⟩
    · rw [f4.same c (by have := f3.size; have := f2.size; have := x1.size; omega) (by rw [f3.own c (get_lt blk2), p1.oc]; simp), f3.same c (get_lt blk2) (by simp), blk2, eiv]
    · rw [f3.own c (get_lt blk2)]; exact p1.oc
    · rw [e4]; exact oth_putO tab3
    · exact ot3
    · exact (sl2.fr f3 (by simp)).fr f4 (by simp)
    · exact fun y hy => (((p1.maps y hy).fr f2 (by simp)).fr f3 (by simp)).fr f4 (by simp)
    · rw [List.map_append, List.nodup_append]
      refine ⟨p1.nd, by simp, fun a ha b hb => ?_⟩
      simp only [List.map_cons, List.map_nil, List.mem_singleton] at hb
      obtain ⟨y, hy, rfl⟩ := List.mem_map.1 ha
      obtain ⟨_, _, _, gy, _⟩ := p1.calls y hy
      have := get_lt gy
      have := f2.size
      omega
    · intro y hy
      rcases List.mem_append.1 hy with hy | hy
      · exact cs2 y hy
      · have : y = (e.thread, H2.length, cl) := by simpa using hy
        subst this
        exact ⟨res0, nils, _, by rw [f4.same _ (get_lt g3) (by rw [up_self]; simp)]; exact g3, up_self, ⟨_, _, _, rfl⟩, fun a ha => by rw [ecl] at ha; cases ha⟩
    · simp [ec, ecl, em]
    · intro y hy
      rcases List.mem_append.1 hy with hy | hy
      · exact hfr y hy
      · have : y = (e.thread, H2.length, cl) := by simpa using hy
        subst this
        rw [ecl]; simp only; omega
end
end Go.Proofs.Ytgakioiplkehgaa.Fun
namespace Go.Proofs.Ytgakioiplkehgaa.Fun
open Go Go.RowKit Go.Proofs.YtgakioiplkehgaaA.Am
set_option linter.unusedVariables false
set_option linter.unusedSimpArgs false
set_option linter.unnecessarySimpa false
set_option maxRecDepth 10000
theorem st6C {H : Heap} {k : Nat} {a0 a1 a2 a3 a4 a5 b0 b1 b2 b3 b4 b5 : Value} {t : TypeId} (r : ResV) {s : Value} {a : Option Addr} {m n : Nat} (es : s = .slice a m n) (h : H.get k = some ⟨[a0, a1, a2, a3, a4, a5, b0, b1, b2, b3, b4, b5], t, 1, false⟩) :
    stS 6 (.pointer (some ⟨k, 6, none⟩)) (resA r s) H = some (undef, H.put k ⟨[a0, a1, a2, a3, a4, a5, cv r.why, .bool r.found, cv r.key, cv r.value, cv r.n, s], t, 1, false⟩) := by
  subst es
  simp [stS, stCells, h, Value.cells, known, oneCell, splice]
theorem CallR.put_ne {H : Heap} {o : Owner} {k k' : Nat} {c : CallV} {b : Blk} (h : CallR H o k' c) (hk : k' ≠ k) (ok : o k = -22) : CallR (H.put k b) o k' c := by
  obtain ⟨r, s, ty, g, ok', hs, ht⟩ := h
  exact ⟨r, s, ty, by rw [get_put_ne hk]; exact g, ok', hs, fun a ha => ⟨(ht a ha).1, (ht a ha).2.mv fun i hi ho => ⟨get_put_ne (by rintro rfl; rw [ok] at ho; omega), ho⟩⟩⟩
theorem set_same {α : Type} {l : List α} {j : Nat} {a : α} (h : l[j]? = some a) : l.set j a = l := by
  apply List.ext_getElem?
  intro i
  rw [List.getElem?_set]
  split
  · rename_i e
    subst e
    have := (List.getElem?_eq_some_iff.1 h).1
    rw [if_pos this, h]
  · rfl
theorem nodup_idx {α : Type} {l : List α} (h : l.Nodup) {i j : Nat} {a : α} (hi : l[i]? = some a) (hj : l[j]? = some a) : i = j := by
  obtain ⟨hi1, hi2⟩ := List.getElem?_eq_some_iff.1 hi
  obtain ⟨hj1, hj2⟩ := List.getElem?_eq_some_iff.1 hj
  have hp := List.pairwise_iff_getElem.1 h
  rcases Nat.lt_trichotomy i j with g | g | g
  · exact absurd (hi2.trans hj2.symm) (hp i j hi1 hj1 g)
  · exact g
  · exact absurd (hj2.trans hi2.symm) (hp j i hj1 hi1 g)
theorem map_eraseIdx' {α β : Type} (f : α → β) (l : List α) (j : Nat) : (l.eraseIdx j).map f = (l.map f).eraseIdx j := by
  rw [List.eraseIdx_eq_take_drop_succ, List.eraseIdx_eq_take_drop_succ]
  simp [List.map_take, List.map_drop]
section
variable {H : Heap} {o : Owner} {q : Int} {n c : Nat} {S : StV} {e : EvV} {x : Value}
/-- Took. -/
theorem took_runs (h : LinR H o c S) (he : EvR H o q x e) (hms : S.maps.length ≤ 65000) (hb : ∀ m ∈ S.maps, m.length < 4194303) (hk : e.kind = 2) (hn : 4194304 < n) : StepR H o c S e (n + 18) 36 x := by
  obtain ⟨sm, bm, t, ms, cs, ty, hp, em, ec, hne, hfr⟩ := h
  obtain ⟨s, rfl, hs⟩ := he
  have hml : ms.length ≤ 65000 := by rw [em] at hms; simpa using hms
  obtain ⟨a, m', es⟩ := hs.isSlice
  unfold StepR
  rw [F36_eq]
  have b1 := boxE e es H
  obtain ⟨H1, e1⟩ : ∃ z, z = H.new ⟨evCells e s, 31, 1, false⟩ := ⟨_, rfl⟩
  rw [← e1] at b1
  have x1 : Ext H H1 := by rw [e1]; exact (Ext.refl H).new _
  have f1 := x1.fr o (-9)
  obtain ⟨o1, eo1⟩ : ∃ z, z = o.from H.length (-9) := ⟨_, rfl⟩
  rw [← eo1] at f1
  have g1 : H1.get H.length = some ⟨evCells e s, 31, 1, false⟩ := by rw [e1]; exact get_new
  have p1 := hp.fr f1
  have E0 : ld1 (.pointer (some ⟨H.length, 1, none⟩)) H1 = some (cv e.thread) := ld1_pv H.length 1 H1 g1
  have E2 : ld1 (.pointer (some ⟨H.length, 2, none⟩)) H1 = some (cv e.no) := ld1_pv H.length 2 H1 g1
  have C1 : ld1 (.pointer (some ⟨c, 1, none⟩)) H1 = some (.map (some t)) := ld1_pv c 1 H1 p1.blk
  have hkx : kidx S.calls e.thread = kidx cs e.thread := by rw [ec]; exact tab_kidx
  have f1' : Fr H o H1 o1 [-20, -21, -22, -24] := f1.wk (by simp)
  unfold step
  rw [if_neg (by omega), if_neg (by omega), if_pos hk, hkx]
  cases hx : kidx cs e.thread with
  | none =>
    have ml := mlook_no (z := .pointer none) p1.tab (n := e.thread) (by rw [tab_find, kidx_none hx]; rfl)
    refine ⟨H1, _, ?_, f1', fun S' h' => by cases h'⟩
    simp -implicitDefEqProofs [F36, b1, fad_pv, nck_pv, E0, C1, ml, ptr_eql_nil _ uC, pick_bool]
  | some j =>
    obtain ⟨y, hy1, hy2, hy3⟩ := kidx_some hx
    have hmem : y ∈ cs := List.mem_of_getElem? hy1
    have hj : j < cs.length := (List.getElem?_eq_some_iff.1 hy1).1
    have ml := mlook_yes (z := .pointer none) p1.tab (n := e.thread) (x := (y.1, pv y.2.1)) (by rw [tab_find, hy3]; rfl)
    have hcall : S.calls[j]? = some (y.1, y.2.2) := by rw [ec, List.getElem?_map, hy1]; rfl
    simp only [hcall]
    obtain ⟨yk, k, cl⟩ := y
    simp only at ml hcall hmem hy1 ⊢
    obtain ⟨rc, sc, tk, gk, okk, ⟨ac, mc, nc, esc⟩, htk⟩ := p1.calls _ hmem
    simp only at gk okk htk
    have K3 : ld1 (.pointer (some ⟨k, 3, none⟩)) H1 = some (cv cl.no) := ld1_pv k 3 H1 gk
    have K5 : ld1 (.pointer (some ⟨k, 5, none⟩)) H1 = some (.bool cl.took.isSome) := ld1_pv k 5 H1 gk
    obtain ⟨z, hz, hzm⟩ := last_ex hne
    have hnow : S.now = z.2 := now_eq em hz
    rw [hnow]
    by_cases c1 : cl.no = e.no
    case neg =>
      have c1' : decide (cl.no = e.no) = false := decide_eq_false c1
      refine ⟨H1, _, ?_, f1', fun S' h' => by rw [if_pos (.inl c1)] at h'; cases h'⟩
      rw [if_pos (.inl c1)]
      simp -implicitDefEqProofs [F36, b1, fad_pv, nck_pv, E0, E2, C1, ml, ptr_eql_nil _ uC, pick_bool, K3, neq_int, c1]
    cases c2 : cl.took.isSome with
    | true =>
      refine ⟨H1, _, ?_, f1', fun S' h' => by rw [if_pos (.inr (.inl rfl))] at h'; cases h'⟩
      rw [if_pos (.inr (.inl rfl))]
      rw [c2] at K5
      simp -implicitDefEqProofs [F36, b1, fad_pv, nck_pv, E0, E2, C1, ml, ptr_eql_nil _ uC, pick_bool, K3, K5, neq_int, c1]
    | false =>
      rw [c2] at K5
      have rnow := now_runs (G := KG) (n := n + 16) p1 (by omega) hz hne
      obtain ⟨H2, r2, x2⟩ := turns_runs (G := KG) (n := n + 11) (p1.maps z hzm) cl.op (by omega)
      have evO := eqV_opA cl.op
      cases c3 : trn z.2 cl.op with
      | false =>
        rw [c3] at r2
        refine ⟨H2, _, ?_, f1'.tr0 (x2.fr o1 (-9)), fun S' h' => by rw [if_pos (.inr (.inr rfl))] at h'; cases h'⟩
        rw [if_pos (.inr (.inr rfl))]
        simp -implicitDefEqProofs [F36, b1, fad_pv, nck_pv, E0, E2, C1, ml, ptr_eql_nil _ uC, pick_bool, K3, K5, neq_int, c1, rnow, ldC3 gk, ldC3 (x2.get gk), r2, not_bool, evO]
      | true =>
        rw [c3] at r2
        rw [if_neg (by rintro (h | h | h); exact h c1; cases h; cases h)]
        have f2 := x2.fr o1 (-9)
        obtain ⟨o2, eo2⟩ : ∃ z, z = o1.from H1.length (-9) := ⟨_, rfl⟩
        rw [← eo2] at f2
        have p2 := p1.fr f2
        have gk2 := x2.get gk
        have rnow2 := now_runs (G := KG) (n := n + 16) p2 (by omega) hz hne
        obtain ⟨ya, H3, r3, ⟨s3, eya, hs3⟩, x3⟩ := ans_runs (G := KG) (n := n + 9) (p2.maps z hzm) cl.op (by omega)
        subst eya
        have f3 := x3.fr o2 (-23)
        have hs3' : SlR H3 (o2.from H2.length (-23)) (-23) s3 (ans z.2 cl.op).list := slr_of hs3 fun i hi _ => from_ge hi
        obtain ⟨o3, eo3⟩ : ∃ z, z = o2.from H2.length (-23) := ⟨_, rfl⟩
        rw [← eo3] at f3 hs3'
        have p3 := p2.fr f3
        have gk3 := x3.get gk2
        have ok3 : o3 k = -22 := by rw [f3.own k (get_lt gk2), f2.own k (get_lt gk)]; exact okk
        obtain ⟨a3, m3, es3⟩ := hs3.isSlice
        -- what it answers is noted
        have st5 := st_1 k 5 (.bool true) H3 gk3 rfl (by simp) rfl rfl rfl
        simp only [List.set_cons_succ, List.set_cons_zero] at st5
        have st6 := st6C (ans z.2 cl.op) es3 (get_put (c := ⟨[cv cl.op.kind, cv cl.op.key, cv cl.op.value, cv cl.no, cv cl.frm, .bool true, cv rc.why, .bool rc.found, cv rc.key, cv rc.value, cv rc.n, sc], tk, 1, false⟩) gk3)
        rw [put_put] at st6
        obtain ⟨cl', ecl⟩ : ∃ cl' : CallV, cl' = { cl with took := some z.2 } := ⟨_, rfl⟩
        obtain ⟨H5, e5⟩ : ∃ z', z' = H3.put k ⟨callCells cl' (ans z.2 cl.op) s3, tk, 1, false⟩ := ⟨_, rfl⟩
        have st6' : stS 6 (.pointer (some ⟨k, 6, none⟩)) (resA (ans z.2 cl.op) s3) (H3.put k ⟨[cv cl.op.kind, cv cl.op.key, cv cl.op.value, cv cl.no, cv cl.frm, .bool true, cv rc.why, .bool rc.found, cv rc.key, cv rc.value, cv rc.n, sc], tk, 1, false⟩) = some (undef, H5) := by
          rw [st6, e5, ecl]
          rfl
        have f5 : Fr H3 o3 H5 o3 [-22] := by rw [e5]; exact (Fr.refl _ _ _).put fun _ => by simp [ok3]
        have gk5 : H5.get k = some ⟨callCells cl' (ans z.2 cl.op) s3, tk, 1, false⟩ := by rw [e5]; exact get_put gk3
        have p5 : LinP H5 o3 c sm bm t ms (cs.set j (yk, k, cl')) ty S.inv := by
          refine ⟨by rw [f5.same c (get_lt p3.blk) (by rw [p3.oc]; simp)]; exact p3.blk, p3.oc, ?_, p3.ot, p3.sl.fr f5 (by simp), fun w hw => (p3.maps w hw).fr f5 (by simp), ?_, ?_⟩
          · rw [f5.oth t (oth_lt p3.tab) (by rw [p3.ot]; simp), p3.tab, List.map_set]
            rw [set_same]
            rw [List.getElem?_map, hy1]; rfl
          · rw [List.map_set, set_same]
            · exact p3.nd
            · rw [List.getElem?_map, hy1]; rfl
          · intro w hw
            obtain ⟨i, hi⟩ := List.getElem?_of_mem hw
            by_cases hij : j = i
            · subst hij
              rw [List.getElem?_set_self hj] at hi
              cases hi
              exact ⟨ans z.2 cl.op, s3, tk, gk5, ok3, ⟨_, _, _, es3⟩, fun a ha => by
                rw [ecl] at ha
                cases ha
                exact ⟨by rw [ecl], hs3'.fr f5 (by simp)⟩⟩
            · rw [List.getElem?_set_ne hij] at hi
              have hwm : w ∈ cs := List.mem_of_getElem? hi
              have hne' : w.2.1 ≠ k := fun e => hij (nodup_idx p3.nd (a := k) (by rw [List.getElem?_map, hy1]; rfl) (by rw [List.getElem?_map, hi]; simp [e]))
              rw [e5]
              exact (p3.calls w hwm).put_ne hne' ok3
        have C5 : ld1 (pv c) H5 = some sm := ld1_pv c 0 H5 p5.blk
        have rnow5 := now_runs (G := KG) (n := n + 16) p5 (by omega) hz hne
        have op5 : cl'.op = cl.op := by rw [ecl]
        have L5 := ldC3 gk5
        rw [op5] at L5
        obtain ⟨p', H6, r6, x6, _, h6⟩ := after_runs (n := n + 9) (p5.maps z hzm) (by have := hb z.2 (by rw [em]; exact List.mem_map_of_mem hzm); omega) cl.op (by omega)
        obtain ⟨hp6, m6⟩ := h6 c3
        have f6 := x6.fr o3 p'
        obtain ⟨o6, eo6⟩ : ∃ z, z = o3.from H5.length p' := ⟨_, rfl⟩
        have m6' : MapR H6 o6 p' (aft z.2 cl.op) := m6.relabel fun i hi ho => by
          rcases Nat.lt_or_ge i H5.length with g | g
          · rw [from_lt g] at ho; omega
          · rw [eo6, from_ge g]
        rw [← eo6] at f6
        have p6 := p5.fr f6
        have C6 : ld1 (pv c) H6 = some sm := ld1_pv c 0 H6 p6.blk
        have bs := bsM1 p' H6
        obtain ⟨H7, e7⟩ : ∃ z, z = H6.new ⟨[pv p'], 48, 1, false⟩ := ⟨_, rfl⟩
        rw [← e7] at bs
        have x7 : Ext H6 H7 := by rw [e7]; exact (Ext.refl H6).new _
        have g7 : H7.get H6.length = some ⟨[pv p'], 48, 1, false⟩ := by rw [e7]; exact get_new
        have f7 := x7.fr o6 (-9)
        obtain ⟨o7, eo7⟩ : ∃ z, z = o6.from H6.length (-9) := ⟨_, rfl⟩
        rw [← eo7] at f7
        have p7 := p6.fr f7
        have m7 := m6'.fr f7 (by simp)
        have C7 : ld1 (pv c) H7 = some sm := ld1_pv c 0 H7 p7.blk
        obtain ⟨s', H8, o8, b8, ra, sl8, f8, ow8⟩ := p7.sl.app1 (tE := 48) (by_ := 8) g7 rfl (by omega) (by simp; omega)
        have blk8 : H8.get c = some ⟨[sm, .map (some t), cv S.inv], ty, 1, false⟩ := by rw [f8.same c (get_lt p7.blk) (by rw [p7.oc]; simp)]; exact p7.blk
        have oc8 : o8 c = -20 := by rw [f8.own c (get_lt p7.blk)]; exact p7.oc
        have st9 := st_1 c 0 s' H8 blk8 rfl (by simp) (by obtain ⟨a, k, c, rfl⟩ := sl8.isSlice; rfl) (by obtain ⟨a, k, c, rfl⟩ := sl8.isSlice; rfl) (by obtain ⟨a, k, c, rfl⟩ := sl8.isSlice; rfl)
        simp only [List.set_cons_zero] at st9
        obtain ⟨H9, e9⟩ : ∃ z, z = H8.put c ⟨[s', .map (some t), cv S.inv], ty, 1, false⟩ := ⟨_, rfl⟩
        rw [← e9] at st9
        have f9 : Fr H8 o8 H9 o8 [-20] := by rw [e9]; exact (Fr.refl _ _ _).put fun _ => by simp [oc8]
        have evS := p1.sl.eqV
        have nq : abin Try.prog .neq 3 (cv cl.no) (cv e.no) = some (.bool false) := by rw [neq_int, c1]; simp
        have fA : Fr H o H9 o8 [-20, -21, -22, -24] := ((((((f1'.tr0 f2).tr0 f3).tr (f5.wk (by simp))).tr0 f6).tr0 f7).tr (f8.wk (by simp))).tr (f9.wk (by simp))
        refine ⟨H9, o8, ?_, fA, fun S' h' => ?_⟩
        · simp -implicitDefEqProofs [F36, b1, fad_pv, nck_pv, E0, E2, C1, ml, ptr_eql_nil _ uC, pick_bool, K3, K5, nq, rnow, ldC3 gk, ldC3 gk2, ldC3 gk3, r2, not_bool, evO, rnow2, r3, st5, st6', C5, rnow5, L5, r6, C6, C7, bs, ra, st9, evS]
        · cases h'
          have tab8 : H8.oth t = some (.tab .i64 ((cs.set j (yk, k, cl')).map fun x => (x.1, pv x.2.1))) := by rw [f8.oth t (oth_lt p7.tab) (by rw [p7.ot]; simp)]; exact p7.tab
          refine ⟨s', b8, t, ms ++ [(p', aft z.2 cl.op)], cs.set j (yk, k, cl'), ty, ⟨by rw [e9]; exact get_put blk8, oc8, ?_, ?_, ?_, ?_, p7.nd, ?_⟩, by simp [em], ?_, by simp, ?_⟩
          · rw [f9.oth t (oth_lt tab8) (by rw [f8.own t (oth_lt p7.tab), p7.ot]; simp)]
            exact tab8
          · rw [f8.own t (oth_lt p7.tab)]; exact p7.ot
          · have := sl8.fr f9 (by simp)
            simpa using this
          · intro w hw
            rcases List.mem_append.1 hw with hw | hw
            · exact ((p7.maps w hw).fr f8 (by simp)).fr f9 (by simp)
            · have : w = (p', aft z.2 cl.op) := by simpa using hw
              subst this
              exact (m7.fr f8 (by simp)).fr f9 (by simp)
          · exact fun w hw => ((p7.calls w hw).fr f8 (by simp) (by simp)).fr f9 (by simp) (by simp)
          · rw [ec, List.map_set, ecl]
          · intro w hw
            rw [List.length_append]
            rcases List.mem_or_eq_of_mem_set hw with hw | rfl
            · have := hfr w hw; omega
            · have := hfr _ hmem
              rw [ecl]; simp only at this ⊢; omega
/-- Returned. -/
theorem returned_runs (h : LinR H o c S) (he : EvR H o q x e) (hl : e.res.list.length ≤ 4194304) (hms : S.maps.length ≤ 65000) (hk : e.kind = 3) (hn : 4194304 < n) : StepR H o c S e (n + 18) 37 x := by
  obtain ⟨sm, bm, t, ms, cs, ty, hp, em, ec, hne, hfr⟩ := h
  obtain ⟨s, rfl, hs⟩ := he
  have hml : ms.length ≤ 65000 := by rw [em] at hms; simpa using hms
  obtain ⟨a, m', es⟩ := hs.isSlice
  unfold StepR
  rw [F37_eq]
  have b1 := boxE e es H
  obtain ⟨H1, e1⟩ : ∃ z, z = H.new ⟨evCells e s, 31, 1, false⟩ := ⟨_, rfl⟩
  rw [← e1] at b1
  have x1 : Ext H H1 := by rw [e1]; exact (Ext.refl H).new _
  have f1 := x1.fr o (-9)
  have g1 : H1.get H.length = some ⟨evCells e s, 31, 1, false⟩ := by rw [e1]; exact get_new
  have p1 := hp.fr f1
  have E0 : ld1 (.pointer (some ⟨H.length, 1, none⟩)) H1 = some (cv e.thread) := ld1_pv H.length 1 H1 g1
  have E2 : ld1 (.pointer (some ⟨H.length, 2, none⟩)) H1 = some (cv e.no) := ld1_pv H.length 2 H1 g1
  have C1 : ld1 (.pointer (some ⟨c, 1, none⟩)) H1 = some (.map (some t)) := ld1_pv c 1 H1 p1.blk
  have hkx : kidx S.calls e.thread = kidx cs e.thread := by rw [ec]; exact tab_kidx
  have f1' : Fr H o H1 (o.from H.length (-9)) [-20, -21, -22, -24] := f1.wk (by simp)
  unfold step
  rw [if_neg (by omega), if_neg (by omega), if_neg (by omega), if_pos hk, hkx]
  cases hx : kidx cs e.thread with
  | none =>
    have ml := mlook_no (z := .pointer none) p1.tab (n := e.thread) (by rw [tab_find, kidx_none hx]; rfl)
    refine ⟨H1, _, ?_, f1', fun S' h' => by cases h'⟩
    simp -implicitDefEqProofs [F37, b1, fad_pv, nck_pv, E0, C1, ml, ptr_eql_nil _ uC, pick_bool]
  | some j =>
    obtain ⟨y, hy1, hy2, hy3⟩ := kidx_some hx
    have hmem : y ∈ cs := List.mem_of_getElem? hy1
    have ml := mlook_yes (z := .pointer none) p1.tab (n := e.thread) (x := (y.1, pv y.2.1)) (by rw [tab_find, hy3]; rfl)
    have hcall : S.calls[j]? = some (y.1, y.2.2) := by rw [ec, List.getElem?_map, hy1]; rfl
    simp only [hcall]
    obtain ⟨yk, k, cl⟩ := y
    simp only at ml hcall hmem hy1 ⊢
    have hcl := p1.calls _ hmem
    have hcl2 := hcl
    obtain ⟨rc, sc, tk, gk, okk, ⟨ac, mc, nc, esc⟩, htk⟩ := hcl2
    simp only at gk okk htk
    have K3 : ld1 (.pointer (some ⟨k, 3, none⟩)) H1 = some (cv cl.no) := ld1_pv k 3 H1 gk
    by_cases c1 : cl.no = e.no
    case neg =>
      refine ⟨H1, _, ?_, f1', fun S' h' => by rw [if_pos (.inl c1)] at h'; cases h'⟩
      rw [if_pos (.inl c1)]
      simp -implicitDefEqProofs [F37, b1, fad_pv, nck_pv, E0, E2, C1, ml, ptr_eql_nil _ uC, pick_bool, K3, neq_int, c1]
    obtain ⟨H2, r2, x2⟩ := may_runs (n := n + 4) p1 (by omega) hne hcl (hfr _ hmem) (hs.fr f1 (by simp)) hl (by omega)
    rw [← em] at r2
    cases c2 : may S.maps cl e.res with
    | false =>
      rw [c2] at r2
      refine ⟨H2, _, ?_, f1'.tr0 (x2.fr _ (-9)), fun S' h' => by rw [if_pos (.inr rfl)] at h'; cases h'⟩
      rw [if_pos (.inr rfl)]
      simp -implicitDefEqProofs [F37, b1, fad_pv, nck_pv, E0, E2, C1, ml, ptr_eql_nil _ uC, pick_bool, K3, neq_int, c1, ldE6 g1, r2, not_bool]
    | true =>
      rw [c2] at r2
      rw [if_neg (by rintro (h | h); exact h c1; cases h)]
      have f2 := x2.fr (o.from H.length (-9)) (-9)
      have p2 := p1.fr f2
      have D1 : ld1 (.pointer (some ⟨c, 1, none⟩)) H2 = some (.map (some t)) := ld1_pv c 1 H2 p2.blk
      have D0 : ld1 (.pointer (some ⟨H.length, 1, none⟩)) H2 = some (cv e.thread) := ld1_pv H.length 1 H2 (x2.get g1)
      have del : Go.Proofs.YtgakioiplkehgaaA.Am.mdel .i64 (.map (some t)) (cv e.thread) H2 = some (undef, H2.putO t (.tab .i64 ((cs.eraseIdx j).map fun x => (x.1, pv x.2.1)))) := by
        have : tdel (cs.map fun x => (x.1, pv x.2.1)) e.thread = (cs.eraseIdx j).map fun x => (x.1, pv x.2.1) := by
          unfold tdel
          rw [tab_idx, hx, map_eraseIdx']
        simp [Go.Proofs.YtgakioiplkehgaaA.Am.mdel, p2.tab, this]
      obtain ⟨H3, e3⟩ : ∃ z, z = H2.putO t (.tab .i64 ((cs.eraseIdx j).map fun x => (x.1, pv x.2.1))) := ⟨_, rfl⟩
      rw [← e3] at del
      have f3 : Fr H2 ((o.from H.length (-9)).from H1.length (-9)) H3 ((o.from H.length (-9)).from H1.length (-9)) [-24] := by rw [e3]; exact (Fr.refl _ _ _).putO fun _ => by simp [p2.ot]
      refine ⟨H3, _, ?_, (f1'.tr0 f2).tr (f3.wk (by simp)), fun S' h' => ?_⟩
      · simp -implicitDefEqProofs [F37, b1, fad_pv, nck_pv, E0, E2, C1, ml, ptr_eql_nil _ uC, pick_bool, K3, neq_int, c1, ldE6 g1, r2, not_bool, D1, D0, del]
      · cases h'
        have sub := List.eraseIdx_sublist cs j
        refine ⟨sm, bm, t, ms, cs.eraseIdx j, ty, ⟨?_, p2.oc, ?_, p2.ot, p2.sl.fr f3 (by simp), fun w hw => (p2.maps w hw).fr f3 (by simp), p2.nd.sublist (sub.map _), fun w hw => (p2.calls w (sub.subset hw)).fr f3 (by simp) (by simp)⟩, em, ?_, hne, fun w hw => hfr w (sub.subset hw)⟩
        · rw [f3.same c (get_lt p2.blk) (by rw [p2.oc]; simp)]; exact p2.blk
        · rw [e3]; exact oth_putO p2.tab
        · rw [ec, map_eraseIdx']
/-- Any event. -/
theorem right_runs (h : LinR H o c S) (he : EvR H o q x e) (hl : e.res.list.length ≤ 4194303) (hms : S.maps.length ≤ 65000) (hb : ∀ m ∈ S.maps, m.length < 4194303) (hn : 4194304 < n) : StepR H o c S e (n + 19) 20 x := by
  obtain ⟨s, rfl, hs⟩ := he
  obtain ⟨a, m', es⟩ := hs.isSlice
  unfold StepR
  rw [F20_eq]
  have b1 := boxE e es H
  obtain ⟨H1, e1⟩ : ∃ z, z = H.new ⟨evCells e s, 31, 1, false⟩ := ⟨_, rfl⟩
  rw [← e1] at b1
  have x1 : Ext H H1 := by rw [e1]; exact (Ext.refl H).new _
  have f1 := x1.fr o (-9)
  have g1 : H1.get H.length = some ⟨evCells e s, 31, 1, false⟩ := by rw [e1]; exact get_new
  have E0 : ld1 (pv H.length) H1 = some (cv e.kind) := ld1_pv H.length 0 H1 g1
  have he1 : EvR H1 (o.from H.length (-9)) q (evA e s) e := ⟨s, rfl, hs.fr f1 (by simp)⟩
  have h1 : LinR H1 (o.from H.length (-9)) c S := by
    obtain ⟨sm, bm, t, ms, cs, ty, hp, h2⟩ := h
    exact ⟨sm, bm, t, ms, cs, ty, hp.fr f1, h2⟩
  have L13 := ldE13 g1
  have f1' : Fr H o H1 (o.from H.length (-9)) [-20, -21, -22, -24] := f1.wk (by simp)
  by_cases k4 : e.kind = 4
  · obtain ⟨H', o', r, f, hS⟩ := loaded_runs (n := n) h1 he1 hl hms k4 hn
    refine ⟨H', o', ?_, f1'.tr f, hS⟩
    simp -implicitDefEqProofs [F20, b1, fad_pv, E0, k4, eql_int, L13, r]
  by_cases k1 : e.kind = 1
  · obtain ⟨H', o', r, f, hS⟩ := begun_runs (n := n) h1 he1 hms k1
    refine ⟨H', o', ?_, f1'.tr f, hS⟩
    simp -implicitDefEqProofs [F20, b1, fad_pv, E0, k1, eql_int, L13, r]
  by_cases k2 : e.kind = 2
  · obtain ⟨H', o', r, f, hS⟩ := took_runs (n := n) h1 he1 hms hb k2 hn
    refine ⟨H', o', ?_, f1'.tr f, hS⟩
    simp -implicitDefEqProofs [F20, b1, fad_pv, E0, k2, eql_int, L13, r]
  by_cases k3 : e.kind = 3
  · obtain ⟨H', o', r, f, hS⟩ := returned_runs (n := n) h1 he1 (by omega) hms k3 hn
    refine ⟨H', o', ?_, f1'.tr f, hS⟩
    simp -implicitDefEqProofs [F20, b1, fad_pv, E0, k3, eql_int, L13, r]
  · have hstep : step S e = none := by unfold step; rw [if_neg k4, if_neg k1, if_neg k2, if_neg k3]
    refine ⟨H1, _, ?_, f1', fun S' h' => by rw [hstep] at h'; cases h'⟩
    rw [hstep]
    simp -implicitDefEqProofs [F20, b1, fad_pv, E0, k1, k2, k3, k4, eql_int]
end
end Go.Proofs.Ytgakioiplkehgaa.Fun
namespace Go.Proofs.Ytgakioiplkehgaa.Fun
open Go Go.RowKit Go.Proofs.YtgakioiplkehgaaA.Am
set_option linter.unusedVariables false
set_option linter.unusedSimpArgs false
set_option linter.unnecessarySimpa false
set_option maxRecDepth 10000
/-- A log: its events, their lists. -/
def EvsR (H : Heap) (o : Owner) (q q2 : Int) (x : Value) (L : List EvV) : Prop :=
  (x = .slice none 0 0 ∧ L = []) ∨ (∃ i off, x = .slice (some ⟨i, off, none⟩) 0 0 ∧ L = []) ∨
  ∃ i off c b, x = .slice (some ⟨i, off, none⟩) L.length c ∧ L.length ≤ c ∧ H.get i = some b ∧ b.es = 13 ∧ o i = q ∧ off + 13 * L.length ≤ b.cells.length ∧
    ∀ j e, L[j]? = some e → ∃ s, (b.cells.drop (off + 13 * j)).take 13 = evCells e s ∧ SlR H o q2 s e.res.list
section
variable {H H' : Heap} {o o' : Owner} {q q2 : Int} {x : Value} {L : List EvV}
theorem EvsR.len (h : EvsR H o q q2 x L) : slen x = some (cv L.length) := by
  rcases h with ⟨rfl, rfl⟩ | ⟨i, off, rfl, rfl⟩ | ⟨i, off, c, b, rfl, _⟩ <;> rfl
theorem EvsR.fr {ps : List Int} (h : EvsR H o q q2 x L) (f : Fr H o H' o' ps) (h1 : q ∉ ps) (h2 : q2 ∉ ps) : EvsR H' o' q q2 x L := by
  rcases h with h | h | ⟨i, off, c, b, e1, e2, e3, e4, e5, e6, e7⟩
  · exact .inl h
  · exact .inr (.inl h)
  · refine .inr (.inr ⟨i, off, c, b, e1, e2, by rw [f.same i (get_lt e3) (by rw [e5]; exact h1)]; exact e3, e4, by rw [f.own i (get_lt e3)]; exact e5, e6, fun j e he => ?_⟩)
    obtain ⟨s, k1, k2⟩ := e7 j e he
    exact ⟨s, k1, k2.fr f h2⟩
theorem EvsR.relabel {q' q2' : Int} (h : EvsR H o q q2 x L) (k : ∀ i, i < H.length → o i = q → o' i = q') (k2 : ∀ i, i < H.length → o i = q2 → o' i = q2') : EvsR H o' q' q2' x L := by
  rcases h with h | h | ⟨i, off, c, b, e1, e2, e3, e4, e5, e6, e7⟩
  · exact .inl h
  · exact .inr (.inl h)
  · refine .inr (.inr ⟨i, off, c, b, e1, e2, e3, e4, k i (get_lt e3) e5, e6, fun j e he => ?_⟩)
    obtain ⟨s, g1, g2⟩ := e7 j e he
    exact ⟨s, g1, g2.relabel k2⟩
theorem EvsR.idx (h : EvsR H o q q2 x L) {j : Nat} {e : EvV} (hj : L[j]? = some e) :
    ∃ ptr s, (∀ H', iadS 13 x (cv j) H' = some (ptr, H')) ∧ SlR H o q2 s e.res.list ∧ ldn 13 ptr H = some (evA e s) := by
  have hjl : j < L.length := (List.getElem?_eq_some_iff.1 hj).1
  rcases h with ⟨rfl, rfl⟩ | ⟨i, off, rfl, rfl⟩ | ⟨i, off, c, b, rfl, e2, e3, e4, e5, e6, e7⟩
  · simp at hjl
  · simp at hjl
  · obtain ⟨s, g1, g2⟩ := e7 j e hj
    refine ⟨.pointer (some ⟨i, off + 13 * j, none⟩), s, fun H' => ?_, g2, ?_⟩
    · simp only [iadS]; rw [if_pos (by constructor <;> omega)]; simp <;> omega
    · have hld : ldCells H i (off + 13 * j) 13 = some (evCells e s) := by
        simp only [ldCells, e3]
        rw [if_pos (by omega), g1]
      simp only [ldn, hld]
end
/-! how long the maps become -/
theorem step_fits {S S' : StV} {e : EvV} {K : Nat} (h : step S e = some S') (hK : ∀ m ∈ S.maps, m.length ≤ K) (he : e.res.list.length ≤ K) : (∀ m ∈ S'.maps, m.length ≤ K + 1) ∧ S'.maps.length ≤ S.maps.length + 1 := by
  have up : ∀ m ∈ S.maps, m.length ≤ K + 1 := fun m hm => by have := hK m hm; omega
  have hnow : S.now.length ≤ K := by
    unfold StV.now
    rw [List.getD_eq_getElem?_getD]
    cases hx : S.maps[S.maps.length - 1]? with
    | none => simp
    | some m => exact hK m (List.mem_of_getElem? hx)
  have haft : ∀ op, (aft S.now op).length ≤ K + 1 := fun op => by
    unfold aft
    have h1 := len_mput S.now op.key op.value
    have h2 := len_mdel S.now op.key
    repeat' split
    all_goals first | omega | (split at h1 <;> omega)
  unfold step at h
  split at h
  · split at h
    · cases h
      refine ⟨fun m hm => ?_, by simp⟩
      rcases List.mem_append.1 hm with hm | hm
      · exact up m hm
      · have : m = e.res.list := by simpa using hm
        rw [this]; omega
    · cases h
  · split at h
    · split at h
      · cases h
      · cases h
        exact ⟨up, by simp⟩
    · split at h
      · split at h
        · cases h
        · split at h
          · cases h
          · split at h
            · cases h
            · cases h
              refine ⟨fun m hm => ?_, by simp⟩
              rcases List.mem_append.1 hm with hm | hm
              · exact up m hm
              · rw [List.mem_singleton.1 hm]; exact haft _
      · split at h
        · split at h
          · cases h
          · split at h
            · cases h
            · split at h
              · cases h
              · cases h
                exact ⟨up, by simp⟩
        · cases h
theorem check_from {S : StV} {L : List EvV} {i : Nat} : check L S i = match L with
    | [] => -1
    | e :: L' => match step S e with
      | none => i
      | some S' => check L' S' (i + 1) := by cases L <;> rfl
theorem fsz19 : (19 : Nat) < Try.prog.funcs.size := by decide +kernel
theorem abK (s : Value) {a : Option Addr} {m k t : Nat} (es : s = .slice a m k) : abuild Try.prog 55 [(0, s), (1, .map (some t))] = some (.agg #[s, .map (some t), cv 0]) := by subst es; kernel_rfl
section
variable {H : Heap} {o : Owner} {q q2 : Int} {n : Nat} {x : Value} {L : List EvV} {B : Nat}
/-- Check. -/
theorem check_runs (h : EvsR H o q q2 x L) (hL : L.length ≤ 1000) (hB : ∀ e ∈ L, e.res.list.length ≤ B) (hB2 : B + 2000 ≤ 4194303) (hn : 4194304 < n) :
    ∃ H', run KG (n + 22) 7 [x] H = some (cv (check L st0 0), H') ∧ Ext H H' := by
  rw [F7_eq]
  have h0 : EvsR H o0 (-1) (-1) x L := h.relabel (fun i _ _ => rfl) (fun i _ _ => rfl)
  have hxl := h.len
  -- the checker is made
  obtain ⟨H1, e1⟩ : ∃ z, z = H.new ⟨[.slice none 0 0, .slice none 0 0], 51, 1, false⟩ := ⟨_, rfl⟩
  have b1 := boxT H
  rw [← e1] at b1
  have l1 : H1.length = H.length + 1 := by rw [e1, new_len]
  have m1 : MapR H1 (Owner.up o0 H.length H.length) H.length [] := by rw [e1]; exact MapR.fresh H o0 _
  have f1 : Fr H o0 H1 (Owner.up o0 H.length H.length) [] := by rw [e1]; exact (Fr.refl _ _ _).new _ _
  obtain ⟨o1, eo1⟩ : ∃ z, z = Owner.up o0 H.length H.length := ⟨_, rfl⟩
  rw [← eo1] at m1 f1
  have b2 := bsM1 H.length H1
  obtain ⟨H2, e2⟩ : ∃ z, z = H1.new ⟨[pv H.length], 48, 1, false⟩ := ⟨_, rfl⟩
  rw [← e2, l1] at b2
  have l2 : H2.length = H.length + 2 := by rw [e2, new_len, l1]
  have s2 : Sl H2 (o1.up H1.length (-21)) (-21) (.slice (some ⟨H.length + 1, 0, none⟩) 1 1) [pv H.length] (some (H.length + 1)) := by
    have := Sl.made H1 o1 (-21) 48 [pv H.length]
    rw [← e2, l1] at this
    rw [l1]; exact this
  have f2 : Fr H1 o1 H2 (o1.up H1.length (-21)) [] := by rw [e2]; exact (Fr.refl _ _ _).new _ _
  obtain ⟨o2, eo2⟩ : ∃ z, z = o1.up H1.length (-21) := ⟨_, rfl⟩
  rw [← eo2] at s2 f2
  have m2 := m1.fr f2 (by simp)
  obtain ⟨H3, e3⟩ : ∃ z, z = H2.newO (.tab .i64 []) := ⟨_, rfl⟩
  have b3 : mmk .i64 H2 = some (.map (some (H.length + 2)), H3) := by rw [e3, ← l2]; rfl
  have l3 : H3.length = H.length + 3 := by rw [e3, newO_len, l2]
  have f3 : Fr H2 o2 H3 (o2.up H2.length (-24)) [] := by rw [e3]; exact (Fr.refl _ _ _).newO _ _
  have t3 : H3.oth (H.length + 2) = some (.tab .i64 []) := by rw [e3, ← l2]; exact oth_newO
  obtain ⟨o3, eo3⟩ : ∃ z, z = o2.up H2.length (-24) := ⟨_, rfl⟩
  have ot3 : o3 (H.length + 2) = -24 := by rw [eo3, l2, up_self]
  rw [← eo3] at f3
  have s3 := s2.fr f3 (by simp)
  have m3 := m2.fr f3 (by simp)
  have ab := abK (.slice (some ⟨H.length + 1, 0, none⟩) 1 1) (t := H.length + 2) rfl
  obtain ⟨H4, e4⟩ : ∃ z, z = H3.new ⟨[.slice (some ⟨H.length + 1, 0, none⟩) 1 1, .map (some (H.length + 2)), cv 0], 55, 1, false⟩ := ⟨_, rfl⟩
  have b4 : boxS 55 (.agg #[.slice (some ⟨H.length + 1, 0, none⟩) 1 1, .map (some (H.length + 2)), cv 0]) H3 = some (pv (H.length + 3), H4) := by
    rw [e4, ← l3]; simp [boxS, Value.cells, oneCell, newBlk]
  have l4 : H4.length = H.length + 4 := by rw [e4, new_len, l3]
  have f4 : Fr H3 o3 H4 (o3.up H3.length (-20)) [] := by rw [e4]; exact (Fr.refl _ _ _).new _ _
  have g4 : H4.get (H.length + 3) = some ⟨[.slice (some ⟨H.length + 1, 0, none⟩) 1 1, .map (some (H.length + 2)), cv 0], 55, 1, false⟩ := by
    have := get_new (H := H3) (c := ⟨[.slice (some ⟨H.length + 1, 0, none⟩) 1 1, .map (some (H.length + 2)), cv 0], 55, 1, false⟩)
    rw [l3, ← e4] at this; exact this
  obtain ⟨o4, eo4⟩ : ∃ z, z = o3.up H3.length (-20) := ⟨_, rfl⟩
  have oc4 : o4 (H.length + 3) = -20 := by rw [eo4, l3, up_self]
  rw [← eo4] at f4
  have p4 : LinP H4 o4 (H.length + 3) (.slice (some ⟨H.length + 1, 0, none⟩) 1 1) (some (H.length + 1)) (H.length + 2) [(H.length, [])] [] 55 0 :=
    ⟨g4, oc4, by rw [f4.oth _ (oth_lt t3) (by simp)]; exact t3, by rw [f4.own _ (oth_lt t3)]; exact ot3, s3.fr f4 (by simp), fun y hy => by
      have : y = (H.length, []) := by simpa using hy
      subst this
      exact m3.fr f4 (by simp), .nil, fun y hy => by cases hy⟩
  have h4 : LinR H4 o4 (H.length + 3) st0 := ⟨_, _, _, _, _, _, p4, rfl, rfl, by simp, fun y hy => by cases hy⟩
  obtain ⟨H5, st5, b5, f5⟩ := one_box H4 o4 (-9) 47 (.pointer none) (pv (H.length + 3)) ⟨rfl, rfl, rfl⟩
  obtain ⟨o5, eo5⟩ : ∃ z, z = o4.up H4.length (-9) := ⟨_, rfl⟩
  rw [← eo5] at b5 f5
  have h5 : LinR H5 o5 (H.length + 3) st0 := by
    obtain ⟨sm, bm, t, ms, cs, ty, hp, h2⟩ := h4
    exact ⟨sm, bm, t, ms, cs, ty, hp.fr f5, h2⟩
  have fA : Fr H o0 H5 o5 [] := (((f1.tr f2).tr f3).tr f4).tr f5
  rw [l4] at b5 st5
  -- the events, one behind the other
  have key : ∃ H', run KG (n + 21) 18 [x, fnv 19 #[pv (H.length + 4)]] H5 = some (cv (check L st0 0), H') ∧ Ext H H' := by
    rw [F18_eq]
    obtain ⟨r', hit, hne, x', d8, d9, d5, d16, hr⟩ := iter_go (step := F18_b0 (run KG (n + 20)) (n + 20))
      (Q := fun m vs H' => ∃ (i : Nat) (S : StV) (o' : Owner) (d9 d5 d16 : Value), i ≤ L.length ∧ m = L.length - i ∧ vs = [x, fnv 19 #[pv (H.length + 4)], cv 0, cv i, cv L.length, d9, d5, d16] ∧ LinR H' o' (H.length + 3) S ∧ Fr H5 o5 H' o' [-20, -21, -22, -24] ∧
        check L st0 0 = check (L.drop i) S i ∧ (∀ m ∈ S.maps, m.length ≤ B + i) ∧ S.maps.length ≤ i + 1)
      (R := fun r' => Ext H r'.2.2 ∧ ∃ (d8 d9 d5 d16 : Value), ((r'.1 = .exit 0 ∧ r'.2.1 = [x, fnv 19 #[pv (H.length + 4)], cv 0, d8, cv L.length, d9, d5, d16] ∧ check L st0 0 = -1) ∨
        (r'.1 = .ret ∧ ∃ j : Nat, r'.2.1 = [x, fnv 19 #[pv (H.length + 4)], cv j, d8, cv L.length, d9, d5, d16] ∧ check L st0 0 = j)))
      (by
        rintro m vs H' ⟨i, S, o', d9, d5, d16, hi, rfl, rfl, hS, f, hc, hK, hM⟩
        have fH := (fA.wk (qs := [-20, -21, -22, -24]) (by simp)).tr f
        have extH : Ext H H' := Ext.of fH fun i _ hh => by simp at hh
        by_cases hlt : i < L.length
        · have h1 : (i : Int) < L.length := by omega
          have hLi : L[i]? = some L[i] := List.getElem?_eq_getElem hlt
          obtain ⟨ptr, s, hix, hs, hld⟩ := (h0.fr fH (by simp) (by simp)).idx hLi
          have hbx : Bx H' o' (H.length + 4) (-9) 47 (pv (H.length + 3)) := b5.fr f (by simp)
          -- one event
          have one : ∃ H'' o'', run KG (n + 20) 19 [evA L[i] s, pv (H.length + 4)] H' = some (.bool (!(step S L[i]).isSome), H'') ∧ Fr H' o' H'' o'' [-20, -21, -22, -24] ∧ ∀ S', step S L[i] = some S' → LinR H'' o'' (H.length + 3) S' := by
            rw [F19_eq]
            obtain ⟨a, m', es⟩ := hs.isSlice
            have bx := boxE L[i] es H'
            obtain ⟨Hb, eb⟩ : ∃ z, z = H'.new ⟨evCells L[i] s, 31, 1, false⟩ := ⟨_, rfl⟩
            rw [← eb] at bx
            have xb : Ext H' Hb := by rw [eb]; exact (Ext.refl H').new _
            have fb := xb.fr o' (-9)
            have gb : Hb.get H'.length = some ⟨evCells L[i] s, 31, 1, false⟩ := by rw [eb]; exact get_new
            have hSb : LinR Hb (o'.from H'.length (-9)) (H.length + 3) S := by
              obtain ⟨sm, bm, t, ms, cs, ty, hp, h2⟩ := hS
              exact ⟨sm, bm, t, ms, cs, ty, hp.fr fb, h2⟩
            obtain ⟨H'', o'', rr, fr, hS'⟩ := right_runs (n := n) hSb (x := evA L[i] s) ⟨s, rfl, hs.fr fb (by simp)⟩ (by have := hB _ (List.getElem_mem hlt); omega) (by omega) (fun m hm => by have := hK m hm; omega) hn
            refine ⟨H'', o'', ?_, (fb.wk (by simp)).tr fr, hS'⟩
            simp -implicitDefEqProofs [F19, bx, (hbx.fr fb (by simp)).ld, ldE13 gb, rr, not_bool]
          obtain ⟨H'', o'', r1, f1', hS'⟩ := one
          have hdy := dyn_f (C := run KG (n + 20)) (c := #[pv (H.length + 4)]) (args := [evA L[i] s]) (H := H') fsz19
          have hw : IntKind.i64.wrap ((i : Int) + 1) = ((i + 1 : Nat) : Int) := by rw [w64 (by omega)]; omega
          have hdrop : L.drop i = L[i] :: L.drop (i + 1) := List.drop_eq_getElem_cons hlt
          have hd : check (L[i] :: L.drop (i + 1)) S i = (match step S L[i] with | none => (i : Int) | some S' => check (L.drop (i + 1)) S' (i + 1)) := rfl
          rw [hdrop, hd] at hc
          have fH2 := fH.tr f1'
          cases hst : step S L[i] with
          | none =>
            rw [hst] at r1 hc
            refine .inr ⟨(.ret, [x, fnv 19 #[pv (H.length + 4)], cv i, cv i, cv L.length, .bool true, cv i, .bool true], H''), ?_, by simp, Ext.of fH2 (fun i _ hh => by simp at hh), _, _, _, _, .inr ⟨rfl, i, rfl, hc⟩⟩
            simp -implicitDefEqProofs [F18_b0_v, F18_b0v, lss_int, h1, hix, hld, hdy, r1, fin]
          | some S' =>
            rw [hst] at r1 hc
            obtain ⟨k1, k2⟩ := step_fits hst hK (by have := hB _ (List.getElem_mem hlt); omega)
            refine .inl ⟨_, H'', L.length - (i + 1), by omega, ?_, i + 1, S', o'', .bool true, cv i, .bool false, by omega, rfl, rfl, hS' S' hst, f.tr f1', hc, fun m hm => by have := k1 m hm; omega, by omega⟩
            simp -implicitDefEqProofs [-Int.natCast_add, F18_b0_v, F18_b0v, lss_int, h1, hix, hld, hdy, r1, add_int, hw, fin]
        · have h1 : ¬ (i : Int) < L.length := by omega
          rw [List.drop_eq_nil_of_le (by omega)] at hc
          refine .inr ⟨(.exit 0, [x, fnv 19 #[pv (H.length + 4)], cv 0, cv i, cv L.length, .bool false, d5, d16], H'), ?_, by simp, extH, _, _, _, _, .inl ⟨rfl, rfl, hc⟩⟩
          simp -implicitDefEqProofs [F18_b0_v, F18_b0v, lss_int, h1, fin])
      (L.length - 0) [x, fnv 19 #[pv (H.length + 4)], cv 0, cv (0 : Nat), cv L.length, undef, undef, undef] H5 ⟨0, st0, o5, _, _, _, Nat.zero_le _, rfl, rfl, h5, .refl _ _ _, rfl, fun m hm => by
        have : m = [] := by simpa [st0] using hm
        subst this; simp, by simp [st0]⟩ (n + 20) (by omega)
    obtain ⟨e, vs, H'⟩ := r'
    simp only at hr x'
    simp only [Int.natCast_zero] at hit
    refine ⟨H', ?_, x'⟩
    rcases hr with ⟨rfl, rfl, hc⟩ | ⟨rfl, j, rfl, hc⟩
    · rw [hc]
      simp -implicitDefEqProofs [F18, hxl, hit, F18_j1_v, F18_j1v]
    · rw [hc]
      simp -implicitDefEqProofs [F18, hxl, hit, kBlk, kSeq, up, resK, resL, tupK]
      rfl
  obtain ⟨H', r', x'⟩ := key
  refine ⟨H', ?_, x'⟩
  simp -implicitDefEqProofs [F7, abM0, b1, b2, b3, ab, b4, newBlk, l4, st5, r']
end
end Go.Proofs.Ytgakioiplkehgaa.Fun
