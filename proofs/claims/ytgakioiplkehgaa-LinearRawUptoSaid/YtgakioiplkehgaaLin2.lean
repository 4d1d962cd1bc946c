
/- linear and ref1: what an operation answers of a map; the map behind it. Over the abstract machine. -/
import Derived.Test.YtgakioiplkehgaaFun2
import Derived.Test.YtgakioiplkehgaaFun3
import Derived.Test.YtgakioiplkehgaaLin1
namespace Go.Proofs.Ytgakioiplkehgaa.Fun
open Go Go.RowKit Go.Proofs.YtgakioiplkehgaaA.Am
set_option linter.unusedVariables false
set_option linter.unusedSimpArgs false
set_option linter.unnecessarySimpa false
/-! whose is what is new -/
abbrev nw (n : Nat) : Owner := Owner.from (fun _ => 0) n 1
theorem nw_iff {n i : Nat} : nw n i = 1 ↔ n ≤ i := by
  rcases Nat.lt_or_ge i n with g | g
  · rw [nw, from_lt g]; constructor
    · intro h; simp at h
    · intro h; omega
  · rw [nw, from_ge g]; simp [g]
theorem fresh_owner (o : Owner) : ∀ m : Nat, ∃ Q : Int, ∀ i, i < m → o i < Q
  | 0 => ⟨0, fun i h => by omega⟩
  | m + 1 => by
    obtain ⟨Q, h⟩ := fresh_owner o m
    refine ⟨max Q (o m + 1), fun i hi => ?_⟩
    rcases Nat.lt_or_ge i m with g | g
    · have := h i g; omega
    · have : i = m := by omega
      subst this; omega
theorem slp_nw {H' : Heap} {o : Owner} {n : Nat} {x : Value} {l : PL} (h : ∀ Q, SlP H' (o.from n Q) Q x l) : SlP H' (nw n) 1 x l := by
  obtain ⟨Q, hQ⟩ := fresh_owner o n
  exact (h Q).relabel fun i _ hi => by
    rw [nw_iff]
    rcases Nat.lt_or_ge i n with g | g
    · rw [from_lt g] at hi; have := hQ i g; omega
    · exact g
theorem slp_of {H' : Heap} {o' : Owner} {n : Nat} {q : Int} {x : Value} {l : PL} (h : SlP H' (nw n) 1 x l) (k : ∀ i, n ≤ i → i < H'.length → o' i = q) : SlP H' o' q x l := h.relabel fun i hi hi2 => k i (nw_iff.1 hi2) hi
theorem slp_le {H' : Heap} {n m : Nat} {x : Value} {l : PL} (h : SlP H' (nw n) 1 x l) (k : m ≤ n) : SlP H' (nw m) 1 x l := slp_of h fun i hi _ => nw_iff.2 (by omega)
theorem slr_of {H' : Heap} {o' : Owner} {n : Nat} {q : Int} {x : Value} {l : PL} (h : SlR H' (nw n) 1 x l) (k : ∀ i, n ≤ i → i < H'.length → o' i = q) : SlR H' o' q x l := h.relabel fun i hi hi2 => k i (nw_iff.1 hi2) hi
theorem slr_le {H' : Heap} {n m : Nat} {x : Value} {l : PL} (h : SlR H' (nw n) 1 x l) (k : m ≤ n) : SlR H' (nw m) 1 x l := slr_of h fun i hi _ => nw_iff.2 (by omega)
theorem slr_ext {H H' : Heap} {o : Owner} {q : Int} {x : Value} {l : PL} (h : SlR H o q x l) (e : Ext H H') {o' : Owner} (k : ∀ i, i < H.length → o i = q → o' i = q) : SlR H' o' q x l := h.mv fun i hi ho => ⟨get_slot (e.old i hi), k i hi ho⟩
/-! operations, results -/
structure OpV where
  kind : Int
  key : Int
  value : Int
structure ResV where
  why : Int
  found : Bool
  key : Int
  value : Int
  n : Int
  list : PL
abbrev opA (op : OpV) : Value := .agg #[cv op.kind, cv op.key, cv op.value]
abbrev resA (r : ResV) (s : Value) : Value := .agg #[cv r.why, .bool r.found, cv r.key, cv r.value, cv r.n, s]
def res0 : ResV := ⟨0, false, 0, 0, 0, []⟩
def resF (t : Int × Int × Bool) : ResV := if t.2.2 then ⟨0, true, t.1, t.2.1, 0, []⟩ else res0
def resW (w : Int) : ResV := ⟨w, false, 0, 0, 0, []⟩
def ans (l : PL) (op : OpV) : ResV :=
  if op.kind = 1 ∨ op.kind = 2 ∨ op.kind = 3 ∨ op.kind = 4 then resF (op.key, mget l op.key, mhas l op.key)
  else if op.kind = 5 then resF (mfloor l op.key)
  else if op.kind = 6 then resF (mceil l op.key)
  else if op.kind = 7 then resF (mceil l (-9223372036854775808))
  else if op.kind = 8 then resF (mfloor l 9223372036854775807)
  else if op.kind = 9 then ⟨0, false, 0, 0, 0, rng op.key op.value l⟩
  else if op.kind = 10 then ⟨0, false, 0, 0, (rng op.key op.value l).length, []⟩
  else resW 5
def trn (l : PL) (op : OpV) : Bool := if op.kind = 1 then !mhas l op.key else if op.kind = 3 then mhas l op.key else decide (op.kind = 2)
def aft (l : PL) (op : OpV) : PL := if trn l op then (if op.kind = 3 then mdel l op.key else mput l op.key op.value) else l
/-- A result, its list. -/
def ResR (H : Heap) (o : Owner) (q : Int) (x : Value) (r : ResV) : Prop := ∃ s, x = resA r s ∧ SlR H o q s r.list
theorem boxO (op : OpV) (H : Heap) : boxS 23 (opA op) H = some (pv H.length, H.new ⟨[cv op.kind, cv op.key, cv op.value], 23, 1, false⟩) := by
  simp [boxS, Value.cells, oneCell, newBlk]
theorem ldO {H : Heap} {b : Nat} {op : OpV} {t : TypeId} (h : H.get b = some ⟨[cv op.kind, cv op.key, cv op.value], t, 1, false⟩) : ldn 3 (pv b) H = some (opA op) := by
  simp [ldn, ldCells, h]
theorem st_6 (b : Nat) (r : ResV) {s : Value} {a : Option Addr} {m c : Nat} (es : s = .slice a m c) {cs : List Value} {t : TypeId} (H : Heap) (h : H.get b = some ⟨cs, t, 1, false⟩) (hl : cs.length = 6) :
    stS 6 (pv b) (resA r s) H = some (undef, H.put b ⟨[cv r.why, .bool r.found, cv r.key, cv r.value, cv r.n, s], t, 1, false⟩) := by
  subst es
  obtain ⟨c0, c1, c2, c3, c4, c5, rfl⟩ : ∃ c0 c1 c2 c3 c4 c5, cs = [c0, c1, c2, c3, c4, c5] := by
    match cs, hl with
    | [c0, c1, c2, c3, c4, c5], _ => exact ⟨c0, c1, c2, c3, c4, c5, rfl⟩
  simp [stS, stCells, h, Value.cells, known, oneCell, splice]
theorem ld_6 (b : Nat) (r : ResV) {s : Value} {t : TypeId} (H : Heap) (h : H.get b = some ⟨[cv r.why, .bool r.found, cv r.key, cv r.value, cv r.n, s], t, 1, false⟩) : ldn 6 (pv b) H = some (resA r s) := by
  simp [ldn, ldCells, h]
abbrev nils : Value := .slice none 0 0
theorem abR0 : abuild Try.prog 29 [] = some (resA res0 nils) := by kernel_rfl
theorem abRf (k v : Int) : abuild Try.prog 29 [(1, .bool true), (2, .agg #[cv k, cv v])] = some (resA (resF (k, v, true)) nils) := by kernel_rfl
theorem abRw (w : Int) : abuild Try.prog 29 [(0, cv w)] = some (resA (resW w) nils) := by kernel_rfl
theorem abRl (a : Option Addr) (m c : Nat) : abuild Try.prog 29 [(4, .slice a m c)] = some (.agg #[cv 0, .bool false, cv 0, cv 0, cv 0, .slice a m c]) := by kernel_rfl
theorem abRn (w : Int) : abuild Try.prog 29 [(3, cv w)] = some (resA ⟨0, false, 0, 0, w, []⟩ nils) := by kernel_rfl
theorem resF_list (t : Int × Int × Bool) : (resF t).list = [] := by unfold resF; split <;> rfl
theorem resF_f (k v : Int) : resF (k, v, false) = res0 := rfl
theorem eqP' (a b c d : Int) : abin Try.prog .eql 26 (.agg #[cv a, cv b]) (.agg #[cv c, cv d]) = Option.map Value.bool (match (some (a == c) : Option Bool) with | some true => (match (some (b == d) : Option Bool) with | some true => some true | x => x) | x => x) := by kernel_rfl
theorem neP' (a b c d : Int) : abin Try.prog .neq 26 (.agg #[cv a, cv b]) (.agg #[cv c, cv d]) = Option.map (fun x => Value.bool (!x)) (match (some (a == c) : Option Bool) with | some true => (match (some (b == d) : Option Bool) with | some true => some true | x => x) | x => x) := by kernel_rfl
theorem eqP (a b c d : Int) : abin Try.prog .eql 26 (.agg #[cv a, cv b]) (.agg #[cv c, cv d]) = some (.bool (decide ((a, b) = (c, d)))) := by
  rw [eqP']
  by_cases h1 : a = c
  · subst h1
    by_cases h2 : b = d
    · subst h2; simp
    · have e2 : (b == d) = false := by simpa using h2
      simp [e2, h2]
  · have e1 : (a == c) = false := by simpa using h1
    simp [e1, h1]
theorem neP (a b c d : Int) : abin Try.prog .neq 26 (.agg #[cv a, cv b]) (.agg #[cv c, cv d]) = some (.bool (!decide ((a, b) = (c, d)))) := by
  rw [neP']
  by_cases h1 : a = c
  · subst h1
    by_cases h2 : b = d
    · subst h2; simp
    · have e2 : (b == d) = false := by simpa using h2
      simp [e2, h2]
  · have e1 : (a == c) = false := by simpa using h1
    simp [e1, h1]
section
variable {G : Oracle} {H : Heap} {o : Owner} {q : Int} {x : Value} {l : PL} {n p : Nat}
theorem newR (H : Heap) : newBlk H 29 1 [cv 0, .bool false, cv 0, cv 0, cv 0, nils] = (pv H.length, H.new ⟨[cv 0, .bool false, cv 0, cv 0, cv 0, nils], 29, 1, false⟩) := rfl
theorem res_put {H0 H : Heap} {b : Nat} (r : ResV) {s : Value} {a : Option Addr} {m c : Nat} (es : s = .slice a m c) {cs : List Value} {t : TypeId} (h : H.get b = some ⟨cs, t, 1, false⟩) (hl : cs.length = 6) (e : Ext H0 H) (hb : H0.length ≤ b) :
    ∃ A, stS 6 (pv b) (resA r s) H = some (undef, A) ∧ ldn 6 (pv b) A = some (resA r s) ∧ Ext H0 A ∧ ∀ j, j ≠ b → A[j]? = H[j]? :=
  ⟨_, st_6 b r es H h hl, ld_6 b r _ (get_put h), e.put hb, fun j hj => slot_put hj⟩
theorem lfound_runs (k v : Int) (ok : Bool) (H : Heap) : ∃ H', run G (n + 1) 44 [cv k, cv v, .bool ok] H = some (resA (resF (k, v, ok)) nils, H') ∧ Ext H H' := by
  rw [F44_eq]
  obtain ⟨A, h1, h2, h3, _⟩ := res_put (resF (k, v, ok)) (s := nils) rfl (get_new (H := H) (c := ⟨[cv 0, .bool false, cv 0, cv 0, cv 0, nils], 29, 1, false⟩)) rfl ((Ext.refl H).new _) (Nat.le_refl _)
  refine ⟨A, ?_, h3⟩
  cases ok with
  | true => simp -implicitDefEqProofs [F44, newR, not_bool, abP, abRf, h1, h2]
  | false =>
    rw [resF_f] at h1 h2
    simp -implicitDefEqProofs [F44, newR, not_bool, abR0, resF_f, h1, h2]
theorem rfound_runs (k v : Int) (ok : Bool) (H : Heap) : ∃ H', run G (n + 1) 27 [.agg #[cv k, cv v], .bool ok] H = some (resA (resF (k, v, ok)) nils, H') ∧ Ext H H' := by
  rw [F27_eq]
  obtain ⟨H1, e1⟩ : ∃ z, z = H.new ⟨[cv k, cv v], 26, 1, false⟩ := ⟨_, rfl⟩
  have b1 : boxS 26 (.agg #[cv k, cv v]) H = some (pv H.length, H1) := by rw [e1]; simp [boxS, Value.cells, oneCell, newBlk]
  have x1 : Ext H H1 := by rw [e1]; exact (Ext.refl H).new _
  have g1 : H1.get H.length = some ⟨[cv k, cv v], 26, 1, false⟩ := by rw [e1]; exact get_new
  have l1 : H1.length = H.length + 1 := by rw [e1, new_len]
  have g2 : (H1.new ⟨[cv 0, .bool false, cv 0, cv 0, cv 0, nils], 29, 1, false⟩).get H.length = some ⟨[cv k, cv v], 26, 1, false⟩ := by rw [get_new_lt (by omega)]; exact g1
  obtain ⟨A, h1, h2, h3, _⟩ := res_put (resF (k, v, ok)) (s := nils) rfl (get_new (H := H1) (c := ⟨[cv 0, .bool false, cv 0, cv 0, cv 0, nils], 29, 1, false⟩)) rfl (x1.new _) (by omega)
  refine ⟨A, ?_, h3⟩
  cases ok with
  | true => simp -implicitDefEqProofs [F27, b1, newR, not_bool, ld_2 _ _ _ _ g2, abRf, h1, h2]
  | false =>
    rw [resF_f] at h1 h2
    simp -implicitDefEqProofs [F27, b1, newR, not_bool, abR0, resF_f, h1, h2]
/-- answer. -/
theorem ans_runs (h : MapR H o p l) (op : OpV) (hn : 4194304 < n) :
    ∃ x H', run G (n + 8) 24 [pv p, opA op] H = some (x, H') ∧ ResR H' (nw H.length) 1 x (ans l op) ∧ Ext H H' := by
  rw [F24_eq]
  have b1 := boxO op H
  obtain ⟨H1, e1⟩ : ∃ z, z = H.new ⟨[cv op.kind, cv op.key, cv op.value], 23, 1, false⟩ := ⟨_, rfl⟩
  rw [← e1] at b1
  have l1 : H1.length = H.length + 1 := by rw [e1, new_len]
  obtain ⟨H2, e2⟩ : ∃ z, z = H1.new ⟨[cv 0, .bool false, cv 0, cv 0, cv 0, nils], 29, 1, false⟩ := ⟨_, rfl⟩
  have l2 : H2.length = H.length + 2 := by rw [e2, new_len, l1]
  have x2 : Ext H H2 := by rw [e2, e1]; exact ((Ext.refl H).new _).new _
  have n2 : newBlk H1 29 1 [cv 0, .bool false, cv 0, cv 0, cv 0, nils] = (pv (H.length + 1), H2) := by rw [newR, e2, l1]
  have g1 : H2.get H.length = some ⟨[cv op.kind, cv op.key, cv op.value], 23, 1, false⟩ := by rw [e2, get_new_lt (by omega), e1]; exact get_new
  have g2 : H2.get (H.length + 1) = some ⟨[cv 0, .bool false, cv 0, cv 0, cv 0, nils], 29, 1, false⟩ := by
    have := get_new (H := H1) (c := ⟨[cv 0, .bool false, cv 0, cv 0, cv 0, nils], 29, 1, false⟩)
    rw [l1, ← e2] at this; exact this
  have P0 := ld1_pv H.length 0 H2 g1
  have P1 := ld1_pv H.length 1 H2 g1
  have P2 := ld1_pv H.length 2 H2 g1
  have m2 := h.ext x2 0
  have hget := fun k => Get_runs (G := G) (n := n + 2) m2 k (by omega)
  have hflo := fun k => Floor_runs (G := G) (n := n + 2) m2 k (by omega)
  have hcei := fun k => Ceiling_runs (G := G) (n := n + 2) m2 k (by omega)
  -- what is found
  have fnd : ∀ (t : Int × Int × Bool), ∃ H3, run G (n + 7) 44 [cv t.1, cv t.2.1, .bool t.2.2] H2 = some (resA (resF t) nils, H3) ∧ ∃ A, stS 6 (pv (H.length + 1)) (resA (resF t) nils) H3 = some (undef, A) ∧ ldn 6 (pv (H.length + 1)) A = some (resA (resF t) nils) ∧ Ext H A := by
    intro t
    obtain ⟨H3, r3, x3⟩ := lfound_runs (G := G) (n := n + 6) t.1 t.2.1 t.2.2 H2
    obtain ⟨A, h1, h2, h3, _⟩ := res_put (H0 := H) (resF t) (s := nils) rfl (x3.get g2) rfl (x2.trans x3) (by omega)
    exact ⟨H3, r3, A, h1, h2, h3⟩
  have done : ∀ (t : Int × Int × Bool) (A : Heap), ResR A (nw H.length) 1 (resA (resF t) nils) (resF t) := fun t A => ⟨nils, rfl, by rw [resF_list]; exact .nil⟩
  have lst : ∃ xs H3, run G (n + 7) 31 [pv p, cv op.key, cv op.value] H2 = some (xs, H3) ∧ SlP H3 (nw H.length) 1 xs (rng op.key op.value l) ∧ Ext H2 H3 := by
    obtain ⟨xs, H3, r3, s3, x3⟩ := list_runs (G := G) (n := n + 1) m2 op.key op.value (by omega)
    exact ⟨xs, H3, r3, slp_le (slp_nw s3) (by omega), x3⟩
  by_cases k4 : op.kind = 1 ∨ op.kind = 2 ∨ op.kind = 3 ∨ op.kind = 4
  · obtain ⟨H3, r3, A, t1, t2, t3⟩ := fnd (op.key, mget l op.key, mhas l op.key)
    refine ⟨_, A, ?_, by have := done (op.key, mget l op.key, mhas l op.key) A; unfold ans; rw [if_pos k4]; exact this, t3⟩
    simp only at r3 t1 t2
    rcases k4 with k | k | k | k <;>
    · simp -implicitDefEqProofs [F24, k, b1, n2, fad_pv, P0, P1, eql_int, F24_j1_v, F24_j1v, hget, ext_i, r3, t1, t2]
  have k1 : ¬ op.kind = 1 := fun h => k4 (.inl h)
  have k2 : ¬ op.kind = 2 := fun h => k4 (.inr (.inl h))
  have k3 : ¬ op.kind = 3 := fun h => k4 (.inr (.inr (.inl h)))
  have k4' : ¬ op.kind = 4 := fun h => k4 (.inr (.inr (.inr h)))
  by_cases k5 : op.kind = 5
  · obtain ⟨H3, r3, A, t1, t2, t3⟩ := fnd (mfloor l op.key)
    refine ⟨_, A, ?_, by have := done (mfloor l op.key) A; unfold ans; rw [if_neg k4, if_pos k5]; exact this, t3⟩
    simp -implicitDefEqProofs [F24, k5, b1, n2, fad_pv, P0, P1, eql_int, F24_j1_v, F24_j1v, hflo, ext_i, r3, t1, t2]
  by_cases k6 : op.kind = 6
  · obtain ⟨H3, r3, A, t1, t2, t3⟩ := fnd (mceil l op.key)
    refine ⟨_, A, ?_, by have := done (mceil l op.key) A; unfold ans; rw [if_neg k4, if_neg k5, if_pos k6]; exact this, t3⟩
    simp -implicitDefEqProofs [F24, k6, b1, n2, fad_pv, P0, P1, eql_int, F24_j1_v, F24_j1v, hcei, ext_i, r3, t1, t2]
  by_cases k7 : op.kind = 7
  · obtain ⟨H3, r3, A, t1, t2, t3⟩ := fnd (mceil l (-9223372036854775808))
    refine ⟨_, A, ?_, by have := done (mceil l (-9223372036854775808)) A; unfold ans; rw [if_neg k4, if_neg k5, if_neg k6, if_pos k7]; exact this, t3⟩
    simp -implicitDefEqProofs [F24, k7, b1, n2, fad_pv, P0, P1, eql_int, F24_j1_v, F24_j1v, hcei, ext_i, r3, t1, t2]
  by_cases k8 : op.kind = 8
  · obtain ⟨H3, r3, A, t1, t2, t3⟩ := fnd (mfloor l 9223372036854775807)
    refine ⟨_, A, ?_, by have := done (mfloor l 9223372036854775807) A; unfold ans; rw [if_neg k4, if_neg k5, if_neg k6, if_neg k7, if_pos k8]; exact this, t3⟩
    simp -implicitDefEqProofs [F24, k8, b1, n2, fad_pv, P0, P1, eql_int, F24_j1_v, F24_j1v, hflo, ext_i, r3, t1, t2]
  by_cases k9 : op.kind = 9
  · obtain ⟨xs, H3, r3, s3, x3⟩ := lst
    obtain ⟨a, c, es⟩ := s3.isSlice
    obtain ⟨A, t1, t2, t3, sA⟩ := res_put (H0 := H) ⟨0, false, 0, 0, 0, rng op.key op.value l⟩ (s := xs) es (x3.get g2) rfl (x2.trans x3) (by omega)
    refine ⟨_, A, ?_, ⟨xs, by unfold ans; rw [if_neg k4, if_neg k5, if_neg k6, if_neg k7, if_neg k8, if_pos k9], ?_⟩, t3⟩
    · have ab := abRl a (rng op.key op.value l).length c
      rw [← es] at ab
      simp -implicitDefEqProofs [F24, k9, b1, n2, fad_pv, P0, P1, P2, eql_int, F24_j1_v, F24_j1v, r3, ab, t1, t2]
    · unfold ans
      rw [if_neg k4, if_neg k5, if_neg k6, if_neg k7, if_neg k8, if_pos k9]
      refine (s3.mv (H' := A) (o' := nw H.length) fun i n c e => ⟨sA i ?_, rfl⟩).r
      rintro rfl
      exact s3.base_ne (x3.get g2) _ _ e
  by_cases k10 : op.kind = 10
  · obtain ⟨xs, H3, r3, s3, x3⟩ := lst
    obtain ⟨A, t1, t2, t3, _⟩ := res_put (H0 := H) ⟨0, false, 0, 0, (rng op.key op.value l).length, []⟩ (s := nils) rfl (x3.get g2) rfl (x2.trans x3) (by omega)
    refine ⟨_, A, ?_, ⟨nils, by unfold ans; rw [if_neg k4, if_neg k5, if_neg k6, if_neg k7, if_neg k8, if_neg k9, if_pos k10], by unfold ans; rw [if_neg k4, if_neg k5, if_neg k6, if_neg k7, if_neg k8, if_neg k9, if_pos k10]; exact .nil⟩, t3⟩
    simp -implicitDefEqProofs [F24, k10, b1, n2, fad_pv, P0, P1, P2, eql_int, F24_j1_v, F24_j1v, r3, s3.len, abRn, t1, t2]
  · obtain ⟨A, t1, t2, t3, _⟩ := res_put (H0 := H) (resW 5) (s := nils) rfl g2 rfl x2 (by omega)
    refine ⟨_, A, ?_, ⟨nils, by unfold ans; rw [if_neg k4, if_neg k5, if_neg k6, if_neg k7, if_neg k8, if_neg k9, if_neg k10], by unfold ans; rw [if_neg k4, if_neg k5, if_neg k6, if_neg k7, if_neg k8, if_neg k9, if_neg k10]; exact .nil⟩, t3⟩
    simp -implicitDefEqProofs [F24, b1, n2, fad_pv, P0, P1, P2, eql_int, k1, k2, k3, k4', k5, k6, k7, k8, k9, k10, F24_j1_v, F24_j1v, F24_j0_v, F24_j0v, abRw, t1, t2]
end
end Go.Proofs.Ytgakioiplkehgaa.Fun
