
/- What comes in: operations, lists of pairs; pairs made of raw numbers. Over the abstract machine. -/
import Derived.Test.YtgakioiplkehgaaFun0
import Derived.Test.YtgakioiplkehgaaLin4
namespace Go.Proofs.Ytgakioiplkehgaa.Fun
open Go Go.RowKit Go.Proofs.YtgakioiplkehgaaA.Am
set_option linter.unusedVariables false
set_option linter.unusedSimpArgs false
set_option linter.unnecessarySimpa false
set_option maxRecDepth 10000
theorem uI : Try.prog.underlying 3 = some (.int .i64) := by kernel_rfl
theorem u64 : Try.prog.underlying 2 = some (.int .i64) := by kernel_rfl
theorem opStruct : structIs Try.prog 23 [3, 2, 2] = true := by kernel_rfl
theorem pairStruct : structIs Try.prog 26 [2, 2] = true := by kernel_rfl
theorem pairCells : Try.prog.cellsOf 26 = 2 := by kernel_rfl
theorem slP : Try.prog.underlying 27 = some (.slice 26) := by kernel_rfl
def OpOk (op : OpV) : Prop := W64 op.kind ∧ W64 op.key ∧ W64 op.value
theorem opIn {H : Heap} {f : Nat} {cs : List Value} (h : In Try.prog H (f + 2) 23 cs) : ∃ op : OpV, cs = [cv op.kind, cv op.key, cv op.value] ∧ OpOk op := by
  obtain ⟨fs, he, ht⟩ := structIs_ex opStruct
  have h := In.struct (P := Try.prog) (t := 23) (f := f + 1) he h
  generalize fs.toList = l at h ht
  obtain ⟨f0, l, rfl, h0, ht⟩ := List.map_eq_cons_iff.1 ht
  obtain ⟨f1, l, rfl, h1, ht⟩ := List.map_eq_cons_iff.1 ht
  obtain ⟨f2, l, rfl, h2, ht⟩ := List.map_eq_cons_iff.1 ht
  have : l = [] := by simpa using ht
  subst this
  obtain ⟨a0, _, rfl, _, i0, a1, _, rfl, _, i1, a2, _, rfl, _, i2, rfl⟩ := h
  rw [h0] at i0; rw [h1] at i1; rw [h2] at i2
  obtain ⟨k, rfl, hk⟩ := In.int uI i0
  obtain ⟨a, rfl, ha⟩ := In.int u64 i1
  obtain ⟨b, rfl, hb⟩ := In.int u64 i2
  exact ⟨⟨k, a, b⟩, rfl, hk, ha, hb⟩
theorem InArg.op {H : Heap} {f : Nat} {v : Value} (h : InArg Try.prog H (f + 2) 23 v) : ∃ op : OpV, v = opA op ∧ OpOk op := by
  obtain ⟨cs, h1, h2⟩ := h
  obtain ⟨fs, he, ht⟩ := structIs_ex opStruct
  rw [he] at h2
  obtain ⟨op, rfl, ho⟩ := opIn h1
  exact ⟨op, h2, ho⟩
theorem pairIn {H : Heap} {f : Nat} {cs : List Value} (h : In Try.prog H (f + 2) 26 cs) : ∃ z : Int × Int, cs = [cv z.1, cv z.2] ∧ W64 z.1 ∧ W64 z.2 := by
  obtain ⟨fs, he, ht⟩ := structIs_ex pairStruct
  have h := In.struct (P := Try.prog) (t := 26) (f := f + 1) he h
  generalize fs.toList = l at h ht
  obtain ⟨f0, l, rfl, h0, ht⟩ := List.map_eq_cons_iff.1 ht
  obtain ⟨f1, l, rfl, h1, ht⟩ := List.map_eq_cons_iff.1 ht
  have : l = [] := by simpa using ht
  subst this
  obtain ⟨a0, _, rfl, _, i0, a1, _, rfl, _, i1, rfl⟩ := h
  rw [h0] at i0; rw [h1] at i1
  obtain ⟨k, rfl, hk⟩ := In.int u64 i0
  obtain ⟨a, rfl, ha⟩ := In.int u64 i1
  exact ⟨(k, a), rfl, hk, ha⟩
theorem tdiv_w {a k : Int} (ha : W64 a) (hk : 0 < k) : W64 (a.tdiv k) := by
  obtain ⟨h1, h2⟩ := ha
  rcases Int.le_total 0 a with g | g
  · rw [Int.tdiv_eq_ediv_of_nonneg g]
    have e1 := Int.ediv_nonneg g (Int.le_of_lt hk)
    have e2 := Int.ediv_le_self k g
    exact ⟨by omega, by omega⟩
  · have e : a.tdiv k = -((-a).tdiv k) := by rw [Int.neg_tdiv, Int.neg_neg]
    rw [e, Int.tdiv_eq_ediv_of_nonneg (by omega)]
    have e1 := Int.ediv_nonneg (show 0 ≤ -a by omega) (Int.le_of_lt hk)
    have e2 := Int.ediv_le_self k (show 0 ≤ -a by omega)
    exact ⟨by omega, by omega⟩
/-- All keys and values are numbers of 64 bits. -/
def W64s (l : PL) : Prop := ∀ z ∈ l, W64 z.1 ∧ W64 z.2
theorem pairsIn {H : Heap} {f : Nat} {cs : List Value} (h : In Try.prog H (f + 3) 27 cs) : ∃ v l, cs = [v] ∧ SlR H o0 (-1) v l ∧ W64s l := by
  rcases In.slice slP h with rfl | ⟨i, es, rfl, hm, hg, hall⟩
  · exact ⟨_, [], rfl, .nil, fun z hz => by cases hz⟩
  · have : ∃ l : PL, es = l.map (fun z => [cv z.1, cv z.2]) ∧ W64s l := by
      clear h hm hg
      induction es with
      | nil => exact ⟨[], rfl, fun z hz => by cases hz⟩
      | cons y es ih =>
        obtain ⟨l, rfl, hl⟩ := ih (fun x hx => hall x (List.mem_cons_of_mem _ hx))
        obtain ⟨z, rfl, hz⟩ := pairIn (hall y (List.mem_cons_self ..)).2
        exact ⟨z :: l, rfl, fun x hx => (List.mem_cons.1 hx).elim (fun e => e ▸ hz) (hl x)⟩
    obtain ⟨l, rfl, hl⟩ := this
    have hfl : (l.map (fun z => [cv z.1, cv z.2])).flatten = prs l := by
      clear h hm hg hall hl
      induction l with
      | nil => rfl
      | cons a l ih => simp [prs, ih]
    rw [hfl] at hg
    simp only [List.length_map] at hg ⊢
    refine ⟨_, l, rfl, ?_, hl⟩
    cases l with
    | nil => exact .inr (.inl ⟨i, 0, rfl, rfl⟩)
    | cons a l =>
      have g := hg (by simp)
      have := prs_len (a :: l)
      exact .inr (.inr ⟨i, 0, _, _, rfl, g, pairCells, rfl, Nat.le_refl _, by simp only; omega, by simp only [List.drop_zero]; exact List.take_of_length_le (by omega)⟩)
theorem InArg.pairs {H : Heap} {f : Nat} {v : Value} (h : InArg Try.prog H (f + 3) 27 v) : ∃ l, SlR H o0 (-1) v l ∧ W64s l := by
  obtain ⟨v', l, h1, h2, h3⟩ := pairsIn (h.one (by simp [slP])); cases h1; exact ⟨l, h2, h3⟩
theorem W64s.put {l : PL} {k v : Int} (h : W64s l) (hk : W64 k) (hv : W64 v) : W64s (mput l k v) := fun z hz => by
  unfold mput at hz
  rcases List.mem_append.1 hz with hz | hz
  · exact h z (List.mem_of_mem_take hz)
  · rcases List.mem_cons.1 hz with rfl | hz
    · exact ⟨hk, hv⟩
    · exact h z (List.mem_of_mem_drop hz)
theorem W64s.del {l : PL} {k : Int} (h : W64s l) : W64s (mdel l k) := fun z hz => by
  unfold mdel at hz
  rcases List.mem_append.1 hz with hz | hz
  · exact h z (List.mem_of_mem_take hz)
  · exact h z (List.mem_of_mem_drop hz)
theorem W64s.aft {l : PL} {op : OpV} (h : W64s l) (ho : OpOk op) : W64s (aft l op) := by
  unfold Fun.aft
  split
  · split
    · exact h.del
    · exact h.put ho.2.1 ho.2.2
  · exact h
theorem rng_all {l : PL} (h : W64s l) : rng (-9223372036854775808) 9223372036854775807 l = l := by
  unfold rng
  rw [List.filter_eq_self]
  intro z hz
  obtain ⟨⟨h1, h2⟩, _⟩ := h z hz
  simp [h1, h2]
theorem ResR.ext {H H' : Heap} {o : Owner} {q : Int} {x : Value} {r : ResV} (h : ResR H o q x r) (e : Ext H H') : ResR H' (o.from H.length 0) q x r := by
  obtain ⟨s, h1, h2⟩ := h
  exact ⟨s, h1, h2.fr (e.fr o 0) (by simp)⟩
theorem _root_.Go.Proofs.YtgakioiplkehgaaA.Am.SlR.ext {H H' : Heap} {o : Owner} {q : Int} {x : Value} {l : PL} (h : SlR H o q x l) (e : Ext H H') : SlR H' (o.from H.length 0) q x l := h.fr (e.fr o 0) (by simp)
section
variable {G : Oracle} {H : Heap} {o : Owner} {q : Int} {x : Value} {l : PL} {n p : Nat}
/-- ordinatehand.Pairs. -/
theorem HPairs_runs {v : Value} {zs : List Int} (hv : IntsR H o q v zs) (hz : ∀ x ∈ zs, W64 x) (hn : 4194304 < n) :
    ∃ y H' m, run G (n + 3) 11 [v] H = some (y, H') ∧ SlR H' (nw H.length) 1 y m ∧ m.length ≤ 60 ∧ W64s m ∧ Ext H H' := by
  rw [F11_eq]
  have hvl := hv.1.len
  obtain ⟨N, hN⟩ : ∃ N, N = min zs.length 60 := ⟨_, rfl⟩
  obtain ⟨r, hit, hne, r1, y, m, d4, d13, d5, r2, sy, hm, hw, ex⟩ := iter_go (step := F11_b0 (run G (n + 2)) (n + 2))
    (Q := fun k vs H' => ∃ (i : Nat) (y : Value) (m : PL) (d13 d5 : Value), i ≤ N ∧ k = N - i ∧ vs = [v, nils, cv i, d13, y, d5] ∧ SlP H' (nw H.length) 1 y m ∧ m.length ≤ i ∧ W64s m ∧ Ext H H')
    (R := fun r => r.1 = .exit 0 ∧ ∃ (y : Value) (m : PL) (d4 d13 d5 : Value), r.2.1 = [v, nils, d4, d13, y, d5] ∧ SlP r.2.2 (nw H.length) 1 y m ∧ m.length ≤ N ∧ W64s m ∧ Ext H r.2.2)
    (by
      rintro k vs H' ⟨i, y, m, d13, d5, hi, rfl, rfl, sy, hm, hw, ex⟩
      by_cases hlt : i < N
      · have h1 : (i : Int) < zs.length := by omega
        have h2 : (i : Int) < 60 := by omega
        have hik : i < zs.length := by omega
        obtain ⟨q, off, b, hix, hb, hc⟩ := (hv.fr (ex.fr o 0) (by simp)).1.idx hik
        have hzi : W64 (zs.getD i 0) := by rw [List.getD_eq_getElem?_getD, List.getElem?_eq_getElem hik]; exact hz _ (List.getElem_mem hik)
        have hcut := Cut_runs (G := G) (n + 1) (zs.getD i 0) 97 hzi (by omega) H'
        have c0 := Int.emod_nonneg (zs.getD i 0) (show (97 : Int) ≠ 0 by omega)
        have c1 := Int.emod_lt_of_pos (zs.getD i 0) (show (0 : Int) < 97 by omega)
        have wk : IntKind.i64.wrap (zs.getD i 0 % 97 - 40) = zs.getD i 0 % 97 - 40 := w64 (by omega)
        have hwi : IntKind.i64.wrap ((i : Int) + 1) = ((i + 1 : Nat) : Int) := by rw [w64 (by omega)]; omega
        obtain ⟨y', H'', rp, sp, sl, z⟩ := RPut_runs (G := G) (n := n) sy.r (by omega) (zs.getD i 0 % 97 - 40) i (by omega)
        have ex' : Ext H' H'' := ⟨sl, z⟩
        have hl := len_mput m (zs.getD i 0 % 97 - 40) i
        refine .inl ⟨_, H'', N - (i + 1), by omega, ?_, i + 1, y', _, .bool true, cv (zs.getD i 0 % 97 - 40), by omega, rfl, rfl, slp_le (slp_nw sp) ex.size, by split at hl <;> omega, hw.put ⟨by omega, by omega⟩ ⟨by omega, by omega⟩, ex.trans ex'⟩
        simp -implicitDefEqProofs [-List.getD_eq_getElem?_getD, -Int.natCast_add, F11_b0_v, F11_b0v, hvl, lss_int, h1, h2, pick_bool, hix, ld1_pv _ _ _ hb, hc, hcut, sub_int, wk, rp, add_int, hwi, fin]
      · have hiN : i = N := by omega
        subst hiN
        refine .inr ⟨(.exit 0, [v, nils, cv i, .bool false, y, d5], H'), ?_, by simp, rfl, y, m, _, _, _, rfl, sy, hm, hw, ex⟩
        by_cases h1 : (i : Int) < zs.length
        · have h2 : ¬ (i : Int) < 60 := by omega
          simp -implicitDefEqProofs [F11_b0_v, F11_b0v, hvl, lss_int, h1, h2, pick_bool, fin]
        · simp -implicitDefEqProofs [F11_b0_v, F11_b0v, hvl, lss_int, h1, pick_bool, fin])
    (N - 0) [v, nils, cv (0 : Nat), undef, nils, undef] H ⟨0, _, [], _, _, Nat.zero_le _, rfl, rfl, .inl ⟨rfl, rfl⟩, Nat.le_refl _, (fun z hz => by cases hz), Ext.refl _⟩ (n + 2) (by omega)
  obtain ⟨e, vs, H'⟩ := r
  simp only at r1 r2 sy ex
  subst r1 r2
  simp only [Int.natCast_zero] at hit
  refine ⟨y, H', m, ?_, sy.r, by omega, hw, ex⟩
  simp -implicitDefEqProofs [F11, hit, F11_j1_v, F11_j1v]
end
end Go.Proofs.Ytgakioiplkehgaa.Fun
