
/- LinearRaw over the abstract machine: both checks of a log of any events, and of one that is drawn on. -/
import Derived.Test.YtgakioiplkehgaaFunLinearRaw
import Derived.Test.YtgakioiplkehgaaRefC
import Derived.Test.YtgakioiplkehgaaLinL
import Derived.Test.YtgakioiplkehgaaAmUp
import Derived.Test.YtgakioiplkehgaaFunLinearRaw
namespace Go.Proofs.Ytgakioiplkehgaa.Fun
open Go Go.RowKit Go.Proofs.YtgakioiplkehgaaA.Am
set_option linter.unusedVariables false
set_option linter.unusedSimpArgs false
set_option linter.unnecessarySimpa false
set_option maxRecDepth 10000
theorem rknown_bad : (ks ++ badOf Try.prog).contains 8 = true := by rw [badIs]; rfl
theorem rknown_run (n : Nat) (H : Heap) : run KG (n + 1) 8 [] H = some (.bool true, H) := by
  unfold run
  simp only [acall, rknown_bad, if_true]
  simp [kinG]
/-! what comes in -/
theorem evStruct : structIs Try.prog 31 [3, 3, 3, 23, 29, 3] = true := by kernel_rfl
theorem reStruct : structIs Try.prog 29 [24, 4, 26, 3, 27] = true := by kernel_rfl
theorem evCellsOf : Try.prog.cellsOf 31 = 13 := by kernel_rfl
theorem slE : Try.prog.underlying 32 = some (.slice 31) := by kernel_rfl
theorem slSame {H H' : Heap} {o : Owner} {q : Int} {i : Nat} {n c : Nat} {l : PL} (h : SlR H o q (.slice (some ⟨i, 0, none⟩) n c) l) : n = l.length := by
  obtain ⟨a, c', e⟩ := h.isSlice
  cases e; rfl
theorem uErr : Try.prog.underlying 24 = some (.int .i64) := by kernel_rfl
theorem uB : Try.prog.underlying 4 = some .bool := by kernel_rfl
section
variable {m : Nat} {H : Heap}
theorem pairsU (hm : m ≤ maxLen) {f : Nat} {cs : List Value} (h : InU m Try.prog H (f + 3) 27 cs) : ∃ v l, cs = [v] ∧ SlR H o0 (-1) v l ∧ l.length ≤ m := by
  obtain ⟨v, l, rfl, hs, _⟩ := pairsIn (InU.plain hm _ _ _ h)
  refine ⟨v, l, rfl, hs, ?_⟩
  obtain ⟨a, c, e⟩ := hs.isSlice
  rcases InU.slice slP h with hx | ⟨i, es, hx, hl, _⟩
  · have hx' : v = .slice none 0 0 := by simpa using hx
    rw [e] at hx'
    injection hx' with _ g _
    omega
  · have hx' : v = .slice (some ⟨i, 0, none⟩) es.length es.length := by simpa using hx
    rw [e] at hx'
    injection hx' with _ g _
    omega
theorem resU (hm : m ≤ maxLen) {f : Nat} {cs : List Value} (h : InU m Try.prog H (f + 4) 29 cs) : ∃ (r : ResV) (s : Value), cs = resCells r s ∧ SlR H o0 (-1) s r.list ∧ r.list.length ≤ m := by
  obtain ⟨fs, he, ht⟩ := structIs_ex reStruct
  have h := InU.struct (P := Try.prog) (t := 29) (f := f + 3) he h
  generalize fs.toList = l at h ht
  obtain ⟨f0, l, rfl, h0, ht⟩ := List.map_eq_cons_iff.1 ht
  obtain ⟨f1, l, rfl, h1, ht⟩ := List.map_eq_cons_iff.1 ht
  obtain ⟨f2, l, rfl, h2, ht⟩ := List.map_eq_cons_iff.1 ht
  obtain ⟨f3, l, rfl, h3, ht⟩ := List.map_eq_cons_iff.1 ht
  obtain ⟨f4, l, rfl, h4, ht⟩ := List.map_eq_cons_iff.1 ht
  have : l = [] := by simpa using ht
  subst this
  obtain ⟨a0, _, rfl, _, i0, a1, _, rfl, _, i1, a2, _, rfl, _, i2, a3, _, rfl, _, i3, a4, _, rfl, _, i4, rfl⟩ := h
  rw [h0] at i0; rw [h1] at i1; rw [h2] at i2; rw [h3] at i3; rw [h4] at i4
  obtain ⟨k, rfl, -⟩ := In.int uErr (InU.plain hm _ _ _ i0)
  obtain ⟨b, rfl⟩ := In.bool uB (InU.plain hm _ _ _ i1)
  obtain ⟨z, rfl, -⟩ := pairIn (InU.plain hm _ _ _ i2)
  obtain ⟨c, rfl, -⟩ := In.int uI (InU.plain hm _ _ _ i3)
  obtain ⟨s, l, rfl, hs, hl⟩ := pairsU hm i4
  exact ⟨⟨k, b, z.1, z.2, c, l⟩, s, rfl, hs, hl⟩
theorem evU (hm : m ≤ maxLen) {f : Nat} {cs : List Value} (h : InU m Try.prog H (f + 5) 31 cs) : ∃ (e : EvV) (s : Value), cs = evCells e s ∧ SlR H o0 (-1) s e.res.list ∧ e.res.list.length ≤ m := by
  obtain ⟨fs, he, ht⟩ := structIs_ex evStruct
  have h := InU.struct (P := Try.prog) (t := 31) (f := f + 4) he h
  generalize fs.toList = l at h ht
  obtain ⟨f0, l, rfl, h0, ht⟩ := List.map_eq_cons_iff.1 ht
  obtain ⟨f1, l, rfl, h1, ht⟩ := List.map_eq_cons_iff.1 ht
  obtain ⟨f2, l, rfl, h2, ht⟩ := List.map_eq_cons_iff.1 ht
  obtain ⟨f3, l, rfl, h3, ht⟩ := List.map_eq_cons_iff.1 ht
  obtain ⟨f4, l, rfl, h4, ht⟩ := List.map_eq_cons_iff.1 ht
  obtain ⟨f5, l, rfl, h5, ht⟩ := List.map_eq_cons_iff.1 ht
  have : l = [] := by simpa using ht
  subst this
  obtain ⟨a0, _, rfl, _, i0, a1, _, rfl, _, i1, a2, _, rfl, _, i2, a3, _, rfl, _, i3, a4, _, rfl, _, i4, a5, _, rfl, _, i5, rfl⟩ := h
  rw [h0] at i0; rw [h1] at i1; rw [h2] at i2; rw [h3] at i3; rw [h4] at i4; rw [h5] at i5
  obtain ⟨k, rfl, -⟩ := In.int uI (InU.plain hm _ _ _ i0)
  obtain ⟨t, rfl, -⟩ := In.int uI (InU.plain hm _ _ _ i1)
  obtain ⟨no, rfl, -⟩ := In.int uI (InU.plain hm _ _ _ i2)
  obtain ⟨op, rfl, -⟩ := opIn (InU.plain hm _ _ _ i3)
  obtain ⟨r, s, rfl, hs, hl⟩ := resU hm i4
  obtain ⟨p, rfl, -⟩ := In.int uI (InU.plain hm _ _ _ i5)
  exact ⟨⟨k, t, no, op, r, p⟩, s, rfl, hs, hl⟩
theorem logU (hm : m ≤ maxLen) {f : Nat} {cs : List Value} (h : InU m Try.prog H (f + 6) 32 cs) : ∃ v L, cs = [v] ∧ EvsR H o0 (-1) (-1) v L ∧ ∀ e ∈ L, e.res.list.length ≤ m := by
  rcases InU.slice slE h with rfl | ⟨i, es, rfl, hl, hg, hall⟩
  · exact ⟨_, [], rfl, .inl ⟨rfl, rfl⟩, fun e he => by cases he⟩
  · have : ∃ zs : List (EvV × Value), es = zs.map (fun z => evCells z.1 z.2) ∧ ∀ z ∈ zs, SlR H o0 (-1) z.2 z.1.res.list ∧ z.1.res.list.length ≤ m := by
      clear h hg hl
      induction es with
      | nil => exact ⟨[], rfl, fun z hz => by cases hz⟩
      | cons y es ih =>
        obtain ⟨zs, rfl, hz⟩ := ih (fun x hx => hall x (List.mem_cons_of_mem _ hx))
        obtain ⟨e, s, rfl, h1, h2⟩ := evU hm (hall y (List.mem_cons_self ..)).2
        exact ⟨(e, s) :: zs, rfl, fun x hx => (List.mem_cons.1 hx).elim (fun e => e ▸ ⟨h1, h2⟩) (hz x)⟩
    obtain ⟨zs, rfl, hz⟩ := this
    have hfl : (zs.map (fun z => evCells z.1 z.2)).flatten = evs zs := by
      clear h hg hl hall hz
      induction zs with
      | nil => rfl
      | cons a l ih => simp only [List.map_cons, List.flatten_cons, ih, evs]
    rw [hfl] at hg
    simp only [List.length_map] at hg ⊢
    refine ⟨_, zs.map (fun z => z.1), rfl, ?_, fun e he => ?_⟩
    · cases zs with
      | nil => exact .inr (.inl ⟨i, 0, rfl, rfl⟩)
      | cons a l =>
        have g := hg (by simp)
        have hel := evs_len (a :: l)
        refine .inr (.inr ⟨i, 0, _, _, by rw [List.length_map], by rw [List.length_map]; exact Nat.le_refl _, g, evCellsOf, rfl, by rw [List.length_map]; simp only; omega, fun j e he => ?_⟩)
        rw [List.getElem?_map] at he
        cases hx : (a :: l)[j]? with
        | none => rw [hx] at he; cases he
        | some z =>
          rw [hx] at he
          cases he
          have := evs_at hx []
          rw [List.append_nil] at this
          exact ⟨z.2, by rw [Nat.zero_add]; exact this, (hz z (List.mem_of_getElem? hx)).1⟩
    · obtain ⟨z, hzm, rfl⟩ := List.mem_map.1 he
      exact (hz z hzm).2
end
/-! a log copied -/
theorem evs_of {cs : List Value} {H : Heap} {o : Owner} {q2 : Int} : ∀ (L : List EvV) (off : Nat), (∀ j e, L[j]? = some e → ∃ s, (cs.drop (off + 13 * j)).take 13 = evCells e s ∧ SlR H o q2 s e.res.list) →
    ∃ zs : List (EvV × Value), L = zs.map (fun z => z.1) ∧ (cs.drop off).take (13 * L.length) = evs zs ∧ ∀ z ∈ zs, SlR H o q2 z.2 z.1.res.list
  | [], off, _ => ⟨[], rfl, by simp [evs], fun z hz => by cases hz⟩
  | e :: L, off, h => by
    obtain ⟨s, h1, h2⟩ := h 0 e rfl
    obtain ⟨zs, rfl, h3, h4⟩ := evs_of L (off + 13) (fun j e' he => by
      obtain ⟨s', g1, g2⟩ := h (j + 1) e' (by simpa using he)
      exact ⟨s', by rw [show off + 13 + 13 * j = off + 13 * (j + 1) by omega]; exact g1, g2⟩)
    refine ⟨(e, s) :: zs, rfl, ?_, fun z hz => (List.mem_cons.1 hz).elim (fun e' => e' ▸ h2) (h4 z)⟩
    rw [Nat.mul_zero, Nat.add_zero] at h1
    simp only [List.length_cons, evs]
    rw [show 13 * ((zs.map fun z => z.1).length + 1) = 13 + 13 * (zs.map fun z => z.1).length by omega, List.take_add, h1, List.drop_drop, h3]
theorem bsL0 (H : Heap) : abuildSlice Try.prog 32 0 [] H = some (.slice (some ⟨H.length, 0, none⟩) 0 0, H.new ⟨[], 31, 13, false⟩) := by kernel_rfl
theorem logCopy {H : Heap} {x : Value} {L : List EvV} (h : EvsR H o0 (-1) (-1) x L) (hL : L.length ≤ 60) :
    ∃ x' H' o', appS 31 13 120 (.slice (some ⟨H.length, 0, none⟩) 0 0) x (H.new ⟨[], 31, 13, false⟩) = some (x', H') ∧ LogR H' o' (-30) (-1) x' L ∧ Fr H o0 H' o' [] := by
  obtain ⟨H1, e1⟩ : ∃ t, t = H.new ⟨[], 31, 13, false⟩ := ⟨_, rfl⟩
  have f1 : Fr H o0 H1 (Owner.up o0 H.length (-30)) [] := by rw [e1]; exact (Fr.refl _ _ _).new _ _
  have g1 : H1.get H.length = some ⟨[], 31, 13, false⟩ := by rw [e1]; exact get_new
  have l1 : H1.length = H.length + 1 := by rw [e1, new_len]
  rw [← e1]
  have empty : L = [] → (srcCells H1 13 0 x).map (fun cs => (0, cs)) = some (0, []) → (∃ a c, x = .slice a 0 c) → ∃ x' H' o', appS 31 13 120 (.slice (some ⟨H.length, 0, none⟩) 0 0) x H1 = some (x', H') ∧ LogR H' o' (-30) (-1) x' L ∧ Fr H o0 H' o' [] := by
    rintro rfl hs ⟨a, c, rfl⟩
    refine ⟨.slice (some ⟨H.length, 0, none⟩) 0 0, H1, _, ?_, .inr ⟨H.length, 0, [], 31, [], rfl, by rw [g1]; rfl, rfl, rfl, up_self, fun z hz => by cases hz⟩, f1⟩
    simp only [appS, hs]; simp
  rcases h with ⟨rfl, rfl⟩ | ⟨i, off, rfl, rfl⟩ | ⟨i, off, c, b, rfl, e2, e3, e4, e5, e6, e7⟩
  · exact empty rfl rfl ⟨_, _, rfl⟩
  · exact empty rfl rfl ⟨_, _, rfl⟩
  · by_cases h0 : L.length = 0
    · have : L = [] := List.length_eq_zero_iff.1 h0
      subst this
      exact empty rfl rfl ⟨_, _, rfl⟩
    · have e3' : H1.get i = some b := by rw [f1.same i (get_lt e3) (by simp)]; exact e3
      obtain ⟨zs, ezs, hc, hz⟩ := evs_of L off e7
      have hsrc : srcCells H1 13 L.length (.slice (some ⟨i, off, none⟩) L.length c) = some (evs zs) := by
        simp only [srcCells, h0, if_false, ldCells, e3']
        rw [if_pos (by omega), show L.length * 13 = 13 * L.length by omega, hc]
      have f2 : Fr H1 (Owner.up o0 H.length (-30)) ((H1.kill H.length).new ⟨evs zs, 31, 13, false⟩) ((Owner.up o0 H.length (-30)).up H1.length (-30)) [-30] := by
        have := ((Fr.refl H1 (Owner.up o0 H.length (-30)) [-30]).kill (i := H.length) (fun _ => by simp [up_self])).new ⟨evs zs, 31, 13, false⟩ (-30)
        rw [kill_len] at this
        exact this
      have fA : Fr H o0 ((H1.kill H.length).new ⟨evs zs, 31, 13, false⟩) ((Owner.up o0 H.length (-30)).up H1.length (-30)) [] := by
        have := (f1.wk (qs := [-30]) (by simp)).tr f2
        exact ⟨fun j hj _ => this.slot j hj (by simp), this.own, this.size⟩
      refine ⟨.slice (some ⟨H1.length, 0, none⟩) L.length L.length, _, _, ?_, .inr ⟨H1.length, L.length, [], 31, zs, rfl, ?_, ezs, by simp, up_self, fun z hz' => (hz z hz').fr fA (by simp)⟩, fA⟩
      · simp only [appS, hsrc, Option.map_some]
        rw [if_neg (by omega), if_pos (by simp; omega)]
        simp [g1, ldCells]
      · have := get_new (H := H1.kill H.length) (c := ⟨evs zs, 31, 13, false⟩)
        rw [kill_len] at this
        simpa using this
/-! the law's own log -/
theorem rbsE (e : EvV) {s : Value} {a : Option Addr} {m c : Nat} (es : s = .slice a m c) (H : Heap) : abuildSlice Try.prog 32 1 [(0, evA e s)] H = some (.slice (some ⟨H.length, 0, none⟩) 1 1, H.new ⟨evCells e s, 31, 13, false⟩) := by subst es; kernel_rfl
theorem rabO (a b c : Int) : abuild Try.prog 23 [(0, cv a), (1, cv b), (2, cv c)] = some (opA ⟨a, b, c⟩) := by kernel_rfl
theorem rabE (k t no : Int) (op : OpV) : abuild Try.prog 31 [(0, cv k), (1, cv t), (2, cv no), (3, opA op)] = some (evA ⟨k, t, no, op, res0, 0⟩ nils) := by kernel_rfl
theorem rabP (k : Int) : abuild Try.prog 26 [(0, cv k), (1, cv 1)] = some (.agg #[cv k, cv 1]) := by kernel_rfl
theorem rabR (k : Int) : abuild Try.prog 29 [(1, .bool true), (2, .agg #[cv k, cv 1])] = some (resA ⟨0, true, k, 1, 0, []⟩ nils) := by kernel_rfl
theorem rnewE (H : Heap) : newBlk H 31 1 [cv 0, cv 0, cv 0, cv 0, cv 0, cv 0, cv 0, .bool false, cv 0, cv 0, cv 0, nils, cv 0] = (pv H.length, H.new ⟨[cv 0, cv 0, cv 0, cv 0, cv 0, cv 0, cv 0, .bool false, cv 0, cv 0, cv 0, nils, cv 0], 31, 1, false⟩) := rfl
theorem rstE (e : EvV) (H : Heap) : stS 13 (pv H.length) (evA e nils) (H.new ⟨[cv 0, cv 0, cv 0, cv 0, cv 0, cv 0, cv 0, .bool false, cv 0, cv 0, cv 0, nils, cv 0], 31, 1, false⟩) = some (undef, H.new ⟨evCells e nils, 31, 1, false⟩) := by
  simp [stS, stCells, Value.cells, known, oneCell, splice, Heap.put, Heap.new, Heap.get, List.set_append]
theorem rst6 {H : Heap} {k : Nat} {e : EvV} {t : TypeId} (r : ResV) (h : H.get k = some ⟨evCells e nils, t, 1, false⟩) :
    stS 6 (.pointer (some ⟨k, 6, none⟩)) (resA r nils) H = some (undef, H.put k ⟨evCells { e with res := r } nils, t, 1, false⟩) := by
  simp [stS, stCells, h, Value.cells, known, oneCell, splice]
structure RawS (H : Heap) (o : Owner) (v0 v1 x : Value) (L0 L : List EvV) (zs : List Int) : Prop where
  log0 : EvsR H o (-1) (-1) v0 L0
  ops : IntsR H o (-1) v1 zs
  log : LogR H o (-30) (-1) x L
theorem RawS.fr {H H' : Heap} {o o' : Owner} {v0 v1 x : Value} {L0 L : List EvV} {zs : List Int} {ps : List Int} (h : RawS H o v0 v1 x L0 L zs) (f : Fr H o H' o' ps) (h1 : (-1 : Int) ∉ ps) (h2 : (-30 : Int) ∉ ps) : RawS H' o' v0 v1 x L0 L zs :=
  ⟨h.log0.fr f h1 h1, h.ops.fr f h1, h.log.fr f h2 h1⟩
section
variable {H : Heap} {o : Owner} {v0 v1 x : Value} {L0 L : List EvV} {zs : List Int} {i b : Nat} {ev : EvV} {ty : TypeId} {d23 d7 d50 d56 : Value} {z : Int}
theorem raw_j3 (h : RawS H o v0 v1 x L0 L zs) (hb : H.get b = some ⟨evCells ev nils, ty, 1, false⟩) (hev : ev.res.list = []) (hL : L.length < 4000000) (hi : i < 1000) :
    ∃ H' o' x', F4_j3 (run KG 16777216) 16777216 [v0, v1, .bool false, .bool false, cv i, d23, d7, d50, pv b, d56, x] H = some (.normal, [v0, v1, .bool false, .bool false, cv (i + 1 : Nat), d23, d7, d50, pv b, d56, x'], H') ∧ RawS H' o' v0 v1 x' L0 (L ++ [ev]) zs := by
  obtain ⟨H1, e1⟩ : ∃ t, t = H.new ⟨evCells ev nils, 31, 13, false⟩ := ⟨_, rfl⟩
  have b1 := rbsE ev (s := nils) rfl H
  rw [← e1] at b1
  have x1 : Ext H H1 := by rw [e1]; exact (Ext.refl H).new _
  have f1 := x1.fr o (-9)
  have h1 := h.fr f1 (by simp) (by simp)
  have g1 : H1.get H.length = some ⟨evCells ev nils, 31, 13, false⟩ := by rw [e1]; exact get_new
  have hs : SlR H1 (o.from H.length (-9)) (-1) nils ev.res.list := by rw [hev]; exact .nil
  obtain ⟨x', H', o', ra, lg, f⟩ := h1.log.app (tE := 31) g1 hs (by omega) (by omega)
  have hw : IntKind.i64.wrap ((i : Int) + 1) = ((i + 1 : Nat) : Int) := by rw [w64 (by omega)]; omega
  have L13 := ldE13 hb
  refine ⟨H', o', x', ?_, h1.log0.fr f (by simp) (by simp), h1.ops.fr f (by simp), lg⟩
  simp -implicitDefEqProofs [-Int.natCast_add, F4_j3_v, F4_j3v, L13, b1, ra, F4_j1_v, F4_j1v, add_int, hw, fin]
theorem raw_j2 (h : RawS H o v0 v1 x L0 L zs) (hb : H.get b = some ⟨evCells ev nils, ty, 1, false⟩) (hbo : o b = -9) (hev : ev.res.list = []) (hL : L.length < 4000000) (hi : i < 1000) (hz : W64 z) :
    ∃ H' o' x' ev' e56, F4_j2 (run KG 16777216) 16777216 [v0, v1, .bool false, .bool false, cv i, d23, cv z, d50, pv b, d56, x] H = some (.normal, [v0, v1, .bool false, .bool false, cv (i + 1 : Nat), d23, cv z, d50, pv b, e56, x'], H') ∧ RawS H' o' v0 v1 x' L0 (L ++ [ev']) zs ∧ ev'.res.list = [] := by
  have hrem : (7 : Int) ≠ 0 := by omega
  by_cases k7 : z.tmod 7 = 0
  · have hd : (320 : Int) ≠ 0 := by omega
    have w320 : IntKind.i64.wrap (z.tdiv 320) = z.tdiv 320 := w64 (tdiv_w hz (by omega))
    have u := Cut_runs (G := KG) 16777215 (z.tdiv 320) 3 (tdiv_w hz (by omega)) (by omega) H
    have st := rst6 ⟨0, true, z.tdiv 320 % 3, 1, 0, []⟩ hb
    obtain ⟨ev', eev⟩ : ∃ ev' : EvV, ev' = { ev with res := ⟨0, true, z.tdiv 320 % 3, 1, 0, []⟩ } := ⟨_, rfl⟩
    rw [← eev] at st
    obtain ⟨H1, e1⟩ : ∃ t, t = H.put b ⟨evCells ev' nils, ty, 1, false⟩ := ⟨_, rfl⟩
    rw [← e1] at st
    have f1 : Fr H o H1 o [-9] := by rw [e1]; exact (Fr.refl _ _ _).put fun _ => by simp [hbo]
    have g1 : H1.get b = some ⟨evCells ev' nils, ty, 1, false⟩ := by rw [e1]; exact get_put hb
    obtain ⟨H', o', x', r, hS⟩ := raw_j3 (d23 := d23) (d7 := cv z) (d50 := d50) (d56 := .bool true) (h.fr f1 (by simp) (by simp)) g1 (by rw [eev]) hL hi
    refine ⟨H', o', x', ev', .bool true, ?_, hS, by rw [eev]⟩
    have ap := rabP (z.tdiv 320 % 3)
    have ar := rabR (z.tdiv 320 % 3)
    simp -implicitDefEqProofs [-Int.natCast_add, F4_j2_v, F4_j2v, rem_int _ _ _ hrem, k7, eql_int, quo_int _ _ _ hd, w320, u, ap, ar, fad_pv, st, r]
  · obtain ⟨H', o', x', r, hS⟩ := raw_j3 (d23 := d23) (d7 := cv z) (d50 := d50) (d56 := .bool false) h hb hev hL hi
    refine ⟨H', o', x', ev, .bool false, ?_, hS, hev⟩
    simp -implicitDefEqProofs [-Int.natCast_add, F4_j2_v, F4_j2v, rem_int _ _ _ hrem, k7, eql_int, r]
theorem raw_one (h : RawS H o v0 v1 x L0 L zs) (hzs : ∀ y ∈ zs, W64 y) (hi : i < zs.length) (hi60 : i < 60) (hL : L.length < 4000000) {d8 : Value} :
    ∃ H' o' x' ev' e23 e7 e50 e8 e56, F4_b0 (run KG 16777216) 16777216 [v0, v1, .bool false, .bool false, cv i, d23, d7, d50, d8, d56, x] H = some (.normal, [v0, v1, .bool false, .bool false, cv (i + 1 : Nat), e23, e7, e50, e8, e56, x'], H') ∧ RawS H' o' v0 v1 x' L0 (L ++ [ev']) zs ∧ ev'.res.list = [] := by
  obtain ⟨z, ez⟩ : ∃ z, z = zs.getD i 0 := ⟨_, rfl⟩
  have hz : W64 z := by rw [ez, List.getD_eq_getElem?_getD, List.getElem?_eq_getElem hi]; exact hzs _ (List.getElem_mem hi)
  have hvl := h.ops.1.len
  obtain ⟨qq, off, bb, hix, hbb, hc⟩ := h.ops.1.idx hi
  rw [← ez] at hc
  have h1 : (i : Int) < zs.length := by omega
  have h2 : (i : Int) < 60 := by omega
  have w4 : IntKind.i64.wrap (z.tdiv 4) = z.tdiv 4 := w64 (tdiv_w hz (by omega))
  have w8 : IntKind.i64.wrap (z.tdiv 8) = z.tdiv 8 := w64 (tdiv_w hz (by omega))
  have w32 : IntKind.i64.wrap (z.tdiv 32) = z.tdiv 32 := w64 (tdiv_w hz (by omega))
  have w320 : IntKind.i64.wrap (z.tdiv 320) = z.tdiv 320 := w64 (tdiv_w hz (by omega))
  have u0 := Cut_runs (G := KG) 16777215 z 4 hz (by omega) H
  have u1 := Cut_runs (G := KG) 16777215 (z.tdiv 4) 2 (tdiv_w hz (by omega)) (by omega) H
  have u2 := Cut_runs (G := KG) 16777215 (z.tdiv 8) 4 (tdiv_w hz (by omega)) (by omega) H
  have u3 := Cut_runs (G := KG) 16777215 (z.tdiv 32) 10 (tdiv_w hz (by omega)) (by omega) H
  have u4 := Cut_runs (G := KG) 16777215 (z.tdiv 320) 3 (tdiv_w hz (by omega)) (by omega) H
  have c1 := Int.emod_nonneg z (show (4 : Int) ≠ 0 by omega)
  have c2 := Int.emod_lt_of_pos z (show (0 : Int) < 4 by omega)
  have c3 := Int.emod_nonneg (z.tdiv 32) (show (10 : Int) ≠ 0 by omega)
  have c4 := Int.emod_lt_of_pos (z.tdiv 32) (show (0 : Int) < 10 by omega)
  have k1 : IntKind.i64.wrap (1 + z % 4) = 1 + z % 4 := w64 (by omega)
  have k3 : IntKind.i64.wrap (1 + z.tdiv 32 % 10) = 1 + z.tdiv 32 % 10 := w64 (by omega)
  have ao := rabO (1 + z.tdiv 32 % 10) (z.tdiv 320 % 3) 1
  have ae := rabE (1 + z % 4) (z.tdiv 4 % 2) (z.tdiv 8 % 4) ⟨1 + z.tdiv 32 % 10, z.tdiv 320 % 3, 1⟩
  obtain ⟨ev, eev⟩ : ∃ ev : EvV, ev = ⟨1 + z % 4, z.tdiv 4 % 2, z.tdiv 8 % 4, ⟨1 + z.tdiv 32 % 10, z.tdiv 320 % 3, 1⟩, res0, 0⟩ := ⟨_, rfl⟩
  rw [← eev] at ae
  have st := rstE ev H
  obtain ⟨H1, e1⟩ : ∃ t, t = H.new ⟨evCells ev nils, 31, 1, false⟩ := ⟨_, rfl⟩
  rw [← e1] at st
  have g1 : H1.get H.length = some ⟨evCells ev nils, 31, 1, false⟩ := by rw [e1]; exact get_new
  have x1 : Ext H H1 := by rw [e1]; exact (Ext.refl H).new _
  have f1 := x1.fr o (-9)
  have ob : (o.from H.length (-9)) H.length = -9 := from_ge (Nat.le_refl _)
  have hS1 := h.fr f1 (by simp) (by simp)
  have r2 : (2 : Int) ≠ 0 := by omega
  have r4 : (4 : Int) ≠ 0 := by omega
  have r8 : (8 : Int) ≠ 0 := by omega
  have r32 : (32 : Int) ≠ 0 := by omega
  have r320 : (320 : Int) ≠ 0 := by omega
  have hld := ld1_pv qq off H hbb
  have evl : ev.res.list = [] := by rw [eev]; rfl
  by_cases k2 : z.tmod 2 = 0
  · obtain ⟨w, ew⟩ : ∃ w, w = IntKind.i64.wrap ((i : Int) / 2) := ⟨_, rfl⟩
    have st2 := st_1 H.length 2 (cv w) H1 g1 rfl (by simp) rfl rfl rfl
    obtain ⟨ev', eev'⟩ : ∃ ev' : EvV, ev' = { ev with no := w } := ⟨_, rfl⟩
    obtain ⟨H2, e2⟩ : ∃ t, t = H1.put H.length ⟨evCells ev' nils, 31, 1, false⟩ := ⟨_, rfl⟩
    have st2' : stS 1 (.pointer (some ⟨H.length, 2, none⟩)) (cv w) H1 = some (undef, H2) := by rw [e2, eev']; exact st2
    have f2 : Fr H1 (o.from H.length (-9)) H2 (o.from H.length (-9)) [-9] := by rw [e2]; exact (Fr.refl _ _ _).put fun _ => by simp [ob]
    have g2 : H2.get H.length = some ⟨evCells ev' nils, 31, 1, false⟩ := by rw [e2]; exact get_put g1
    obtain ⟨H', o', x', ev2, e56, r, hS, hl⟩ := raw_j2 (i := i) (d23 := .bool true) (d50 := .bool true) (d56 := d56) (z := z) (hS1.fr f2 (by simp) (by simp)) g2 ob (by rw [eev']; exact evl) hL (by omega) hz
    refine ⟨H', o', x', ev2, .bool true, cv z, .bool true, pv H.length, e56, ?_, hS, hl⟩
    simp -implicitDefEqProofs [-List.getD_eq_getElem?_getD, -Int.natCast_add, F4_b0_v, F4_b0v, hvl, lss_int, h1, h2, pick_bool, hix, hld, hc, u0, u1, u2, u3, u4, add_int, k1, k3, quo_int _ _ _ r4, quo_int _ _ _ r8, quo_int _ _ _ r32, quo_int _ _ _ r320, quo_int _ _ _ r2, w4, w8, w32, w320, ao, ae, rnewE, st, rem_int _ _ _ r2, k2, eql_int, fad_pv, ← ew, st2', r]
  · obtain ⟨H', o', x', ev2, e56, r, hS, hl⟩ := raw_j2 (i := i) (d23 := .bool true) (d50 := .bool false) (d56 := d56) (z := z) hS1 g1 ob evl hL (by omega) hz
    refine ⟨H', o', x', ev2, .bool true, cv z, .bool false, pv H.length, e56, ?_, hS, hl⟩
    simp -implicitDefEqProofs [-List.getD_eq_getElem?_getD, -Int.natCast_add, F4_b0_v, F4_b0v, hvl, lss_int, h1, h2, pick_bool, hix, hld, hc, u0, u1, u2, u3, u4, add_int, k1, k3, quo_int _ _ _ r4, quo_int _ _ _ r8, quo_int _ _ _ r32, quo_int _ _ _ r320, w4, w8, w32, w320, ao, ae, rnewE, st, rem_int _ _ _ r2, k2, eql_int, r]
end
theorem LinearRaw_run {H : Heap} {v0 v1 : Value} {L0 : List EvV} {zs : List Int} {B : Nat} (h0 : EvsR H o0 (-1) (-1) v0 L0) (hB : ∀ e ∈ L0, e.res.list.length ≤ B) (hB2 : B ≤ 4000000) (h1 : IntsR H o0 (-1) v1 zs) (hz : ∀ x ∈ zs, W64 x) :
    ∃ n H', run KG n 4 [v0, v1] H = some (.bool true, H') := by
  refine ⟨16777217, ?_⟩
  rw [F4_eq]
  have kn : ∀ H, run KG 16777216 8 [] H = some (.bool true, H) := fun H => rknown_run 16777215 H
  have hlen := h0.len
  by_cases hL : L0.length ≤ 60
  case neg =>
    have c : (L0.length : Int) > 60 := by omega
    exact ⟨H, by simp -implicitDefEqProofs [-gt_iff_lt, F4, hlen, gtr_int, c, kn]⟩
  have c : ¬ (L0.length : Int) > 60 := by omega
  have b0 := bsL0 H
  obtain ⟨x1, H1, o1, ra, lg1, f1⟩ := logCopy h0 hL
  have hS1 : RawS H1 o1 v0 v1 x1 L0 L0 zs := ⟨h0.fr f1 (by simp) (by simp), h1.fr f1 (by simp), lg1⟩
  obtain ⟨N, hN⟩ : ∃ N, N = min zs.length 60 := ⟨_, rfl⟩
  obtain ⟨r, hit, hne, r1, o2, x2, L2, i2, e23, e7, e50, e8, e56, r2, hS2, hL2, hB'⟩ := iter_go (step := F4_b0 (run KG 16777216) 16777216)
    (Q := fun m vs H' => ∃ (i : Nat) (o' : Owner) (x' : Value) (L' : List EvV) (d23 d7 d50 d8 d56 : Value), i ≤ N ∧ m = N - i ∧ vs = [v0, v1, .bool false, .bool false, cv i, d23, d7, d50, d8, d56, x'] ∧ RawS H' o' v0 v1 x' L0 L' zs ∧ L'.length = L0.length + i ∧ ∀ e ∈ L', e.res.list.length ≤ B)
    (R := fun r => r.1 = .exit 0 ∧ ∃ (o' : Owner) (x' : Value) (L' : List EvV) (i : Nat) (d23 d7 d50 d8 d56 : Value), r.2.1 = [v0, v1, .bool false, .bool false, cv i, d23, d7, d50, d8, d56, x'] ∧ RawS r.2.2 o' v0 v1 x' L0 L' zs ∧ L'.length ≤ 120 ∧ ∀ e ∈ L', e.res.list.length ≤ B)
    (by
      rintro m vs H' ⟨i, o', x', L', d23, d7, d50, d8, d56, hi, rfl, rfl, hS, hl, hb⟩
      by_cases hlt : i < N
      · obtain ⟨H'', o'', x'', ev, w23, w7, w50, w8, w56, rr, hS', hev⟩ := raw_one (d23 := d23) (d7 := d7) (d50 := d50) (d8 := d8) (d56 := d56) hS hz (show i < zs.length by omega) (by omega) (by omega)
        refine .inl ⟨_, H'', N - (i + 1), by omega, rr, i + 1, o'', x'', L' ++ [ev], w23, w7, w50, w8, w56, by omega, rfl, rfl, hS', by simp; omega, fun e he => ?_⟩
        rcases List.mem_append.1 he with he | he
        · exact hb e he
        · rw [List.mem_singleton.1 he, hev]; simp
      · have hiN : i = N := by omega
        have hvl := hS.ops.1.len
        by_cases g1 : (i : Int) < zs.length
        · have g2 : ¬ (i : Int) < 60 := by omega
          refine .inr ⟨(.exit 0, [v0, v1, .bool false, .bool false, cv i, .bool false, d7, d50, d8, d56, x'], H'), ?_, by simp, rfl, o', x', L', i, _, _, _, _, _, rfl, hS, by omega, hb⟩
          simp -implicitDefEqProofs [F4_b0_v, F4_b0v, hvl, lss_int, g1, g2, pick_bool, fin]
        · refine .inr ⟨(.exit 0, [v0, v1, .bool false, .bool false, cv i, .bool false, d7, d50, d8, d56, x'], H'), ?_, by simp, rfl, o', x', L', i, _, _, _, _, _, rfl, hS, by omega, hb⟩
          simp -implicitDefEqProofs [F4_b0_v, F4_b0v, hvl, lss_int, g1, pick_bool, fin])
    (N - 0) [v0, v1, .bool false, .bool false, cv (0 : Nat), undef, undef, undef, undef, undef, x1] H1 ⟨0, o1, x1, L0, _, _, _, _, _, Nat.zero_le _, rfl, rfl, hS1, by omega, hB⟩ 16777216 (by omega)
  obtain ⟨e, vs, H2⟩ := r
  simp only at r1 r2 hS2
  subst r1 r2
  simp only [Int.natCast_zero] at hit
  -- both checks of both logs
  obtain ⟨H3, q3, y3⟩ := check_runs (n := 16777194) (B := B) hS2.log0 (by omega) hB (by omega) (by omega)
  have S3 := hS2.fr (y3.fr o2 (-9)) (by simp) (by simp)
  obtain ⟨H4, q4, y4⟩ := rcheck_runs (G := KG) (n := 16777206) (B := B) S3.log0 (by omega) hB (by omega) (by omega)
  have S4 := S3.fr (y4.fr _ (-9)) (by simp) (by simp)
  obtain ⟨H5, q5, y5⟩ := check_runs (n := 16777194) (B := B) S4.log.evs (by omega) hB' (by omega) (by omega)
  have S5 := S4.fr (y5.fr _ (-9)) (by simp) (by simp)
  obtain ⟨H6, q6, y6⟩ := rcheck_runs (G := KG) (n := 16777206) (B := B) S5.log.evs (by omega) hB' (by omega) (by omega)
  refine ⟨H6, ?_⟩
  simp -implicitDefEqProofs [-gt_iff_lt, F4, hlen, gtr_int, c, b0, ra, hit, F4_j4_v, F4_j4v, kn, q3, q4, q5, q6, eql_int, pick_bool]
end Go.Proofs.Ytgakioiplkehgaa.Fun
namespace Go.Proofs.Ytgakioiplkehgaa.Pure
open Go.RowKit Go.Proofs.YtgakioiplkehgaaA.Am Fun
set_option maxRecDepth 10000
theorem LinearRaw_law : LawU 1048576 Try.prog 4 [32, 37] := LawU.of_ins kk ins 2000 insAll okP okKP knownHold fun H args hr hi => by
  obtain ⟨v0, _, rfl, h0, v1, _, rfl, h1, rfl⟩ := hi
  have hm : 1048576 ≤ maxLen := by decide +kernel
  obtain ⟨cs0, k0, e0⟩ := h0
  obtain ⟨v, L, rfl, hL, hB⟩ := logU hm k0
  obtain ⟨cs1, k1, e1⟩ := h1
  have h1' : InArg Try.prog H 9 37 v1 := ⟨cs1, InU.plain hm _ _ _ k1, e1⟩
  obtain ⟨zs, hz, hzw, _⟩ := h1'.ints (show Try.prog.underlying 37 = some (.slice 3) from by kernel_rfl) uI (by kernel_rfl)
  rw [slE] at e0
  cases e0
  exact LinearRaw_run hL hB (by omega) hz hzw
end Go.Proofs.Ytgakioiplkehgaa.Pure
