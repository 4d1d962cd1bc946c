
/- linear: what lies from one key to another as a list; a map read out of a list. Over the abstract machine. -/
import Derived.Test.YtgakioiplkehgaaFun0
import Derived.Test.YtgakioiplkehgaaFun1
import Derived.Test.YtgakioiplkehgaaFun2
import Derived.Test.YtgakioiplkehgaaLRng
namespace Go.Proofs.Ytgakioiplkehgaa.Fun
open Go Go.RowKit Go.Proofs.YtgakioiplkehgaaA.Am
set_option linter.unusedVariables false
set_option linter.unusedSimpArgs false
set_option linter.unnecessarySimpa false
/-- A heap that grew. -/
structure Ext (H H' : Heap) : Prop where
  old : ∀ j, j < H.length → H'[j]? = H[j]?
  size : H.length ≤ H'.length
theorem Ext.refl (H : Heap) : Ext H H := ⟨fun _ _ => rfl, Nat.le_refl _⟩
theorem Ext.trans {H H1 H2 : Heap} (a : Ext H H1) (b : Ext H1 H2) : Ext H H2 := ⟨fun j hj => by rw [b.old j (Nat.lt_of_lt_of_le hj a.size), a.old j hj], Nat.le_trans a.size b.size⟩
theorem Ext.new {H H1 : Heap} (a : Ext H H1) (c : Blk) : Ext H (H1.new c) := a.trans ⟨fun j hj => slot_new hj, by rw [new_len]; omega⟩
theorem Ext.put {H H1 : Heap} (a : Ext H H1) {i : Nat} {c : Blk} (h : H.length ≤ i) : Ext H (H1.put i c) := ⟨fun j hj => by rw [slot_put (by omega), a.old j hj], by rw [put_len]; exact a.size⟩
theorem Ext.fr {H H' : Heap} (a : Ext H H') (o : Owner) (Q : Int) : Fr H o H' (o.from H.length Q) [] := ⟨fun j hj _ => a.old j hj, fun j hj => from_lt hj, a.size⟩
theorem Ext.get {H H' : Heap} (a : Ext H H') {i : Nat} {b : Blk} (h : H.get i = some b) : H'.get i = some b := by rw [get_slot (a.old i (get_lt h))]; exact h
theorem from_from {o : Owner} {a b : Nat} {Q : Int} (h : a ≤ b) : (o.from a Q).from b Q = o.from a Q := by
  funext i
  rcases Nat.lt_or_ge i b with g | g
  · rw [from_lt g]
  · rw [from_ge g, from_ge (by omega)]
theorem Ext.of {H H' : Heap} {o o' : Owner} {ps : List Int} (f : Fr H o H' o' ps) (h : ∀ i, i < H.length → o i ∉ ps) : Ext H H' := ⟨fun j hj => f.slot j hj (h j hj), f.size⟩
theorem Ext.trans' {H H1 H2 : Heap} {o o' : Owner} {c : Int} (a : Ext H H1) (f : Fr H1 o H2 o' [c]) (k : ∀ i, i < H.length → o i = c → False) : Ext H H2 :=
  ⟨fun j hj => by rw [f.slot j (Nat.lt_of_lt_of_le hj a.size) (fun h => by simp at h; exact k j hj h), a.old j hj], Nat.le_trans a.size f.size⟩
/-- A map's blocks, and the others. -/
abbrev oM (o : Owner) (p : Nat) : Owner := fun i => if o i = (p : Int) then p else -1
theorem MapR.relabel {H : Heap} {o o' : Owner} {p : Nat} {l : PL} (h : MapR H o p l) (k : ∀ i, i < H.length → o i = (p : Int) → o' i = p) : MapR H o' p l := by
  obtain ⟨⟨sk, sv, bk, bv, ty, h1, h2, h3, h4⟩, h5, h6, h7⟩ := h
  have hl := get_lt h1
  refine ⟨⟨sk, sv, bk, bv, ty, h1, h2.mv fun q e => ?_, h3.mv fun q e => ?_, h4⟩, k p hl h5, h6, h7⟩
  · obtain ⟨g1, g2⟩ := h2.lt' e
    exact ⟨rfl, by rw [k q g1 g2, g2]⟩
  · obtain ⟨g1, g2⟩ := h3.lt' e
    exact ⟨rfl, by rw [k q g1 g2, g2]⟩
theorem MapR.oM {H : Heap} {o : Owner} {p : Nat} {l : PL} (h : MapR H o p l) : MapR H (oM o p) p l := h.relabel fun i _ hi => by simp [Fun.oM, hi]
theorem oM_neg {o : Owner} {p i : Nat} {q : Int} (h0 : q < -1) : Fun.oM o p i ≠ q := by
  unfold Fun.oM; split <;> omega
theorem MapR.ext {H H' : Heap} {o : Owner} {p : Nat} {l : PL} (h : MapR H o p l) (e : Ext H H') (Q : Int) : MapR H' (o.from H.length Q) p l := h.fr (e.fr o Q) (by simp)
/-! rising -/
theorem asc_snoc {l : PL} {k v : Int} (h : ∀ j (h : j < l.length), l[j].1 < k) : mput l k v = l ++ [(k, v)] := by
  have hp : mplc l k = l.length := plc_is ilt (by simp) (fun j hj _ => by simpa using h j (by simpa using hj)) (fun h => by simp at h)
  have hh : mhas l k = false := by
    cases hc : mhas l k with
    | false => rfl
    | true => have := (mhas_lt hc).1; omega
  unfold mput
  rw [hh, hp]; simp
theorem take_below {l : PL} {i : Nat} (ha : Asc (keysOf (l.take i))) (hi : i < l.length) (h : 0 < i → (l.getD (i - 1) (0, 0)).1 < (l.getD i (0, 0)).1) : ∀ j (h : j < (l.take i).length), (l.take i)[j].1 < (l.getD i (0, 0)).1 := by
  intro j hj
  simp only [List.length_take] at hj
  have hi0 : 0 < i := by omega
  have h1 := h hi0
  have e : (l.getD (i - 1) (0, 0)) = l[i - 1]'(by omega) := getD_of (by omega)
  rw [e] at h1
  rw [List.getElem_take]
  rcases Nat.lt_or_ge j (i - 1) with g | g
  · have := List.pairwise_iff_getElem.1 ha j (i - 1) (by simp; omega) (by simp; omega) g
    simp only [List.getElem_map, List.getElem_take] at this
    omega
  · have : j = i - 1 := by omega
    subst this; exact h1
theorem asc_take {l : PL} {i : Nat} (ha : Asc (keysOf (l.take i))) (hi : i < l.length) (h : 0 < i → (l.getD (i - 1) (0, 0)).1 < (l.getD i (0, 0)).1) : Asc (keysOf (l.take (i + 1))) := by
  have hb := take_below ha hi h
  rw [take_at hi, keysOf, List.map_append]
  refine List.pairwise_append.2 ⟨ha, List.pairwise_singleton _ _, fun a h b hb' => ?_⟩
  simp only [List.map_cons, List.map_nil, List.mem_singleton] at hb'
  subst hb'
  obtain ⟨j, hj, rfl⟩ := List.getElem_of_mem h
  have h9 := hb j (by simpa using hj)
  rw [List.getElem_take] at h9
  simpa using h9
theorem not_asc {l : PL} {i : Nat} (hi : i < l.length) (h0 : 0 < i) (h : (l.getD i (0, 0)).1 ≤ (l.getD (i - 1) (0, 0)).1) : ¬ Asc (keysOf l) := fun ha => by
  have := List.pairwise_iff_getElem.1 ha (i - 1) i (by simp; omega) (by simpa using hi) (by omega)
  rw [getD_of hi, getD_of (show i - 1 < l.length by omega)] at h
  simp only [List.getElem_map] at this
  omega
section
variable {G : Oracle} {H : Heap} {o : Owner} {q : Int} {x : Value} {l : PL} {n p : Nat}
/-- ref1.Map, of any list. -/
theorem RMapG_runs (hx : SlR H o q x l) (hl : l.length ≤ 4194304) (hn : 4194304 < n) : run G (n + 1) 25 [x] H = some (.bool (decide (Asc (keysOf l))), H) := by
  by_cases hasc : Asc (keysOf l)
  · rw [RMap_runs hx hl hasc hn, decide_eq_true hasc]
  rw [F25_eq]
  have hxl := hx.len
  obtain ⟨r, hit, hne, r1, r2, d3, d7, d21, r3⟩ := iter_go (step := F25_b0 (run G n) n)
    (Q := fun m vs H' => H' = H ∧ ∃ (i : Nat) (d7 d21 : Value), 1 ≤ i ∧ m = l.length - i ∧ vs = [x, .bool false, cv i, d7, d21] ∧ Asc (keysOf (l.take i)))
    (R := fun r => r.1 = .ret ∧ r.2.2 = H ∧ ∃ d3 d7 d21, r.2.1 = [x, .bool false, d3, d7, d21])
    (by
      rintro m vs H' ⟨rfl, i, d7, d21, hi, rfl, rfl, hat⟩
      by_cases hlt : i < l.length
      · have h1 : (i : Int) < l.length := by omega
        obtain ⟨j, rfl⟩ : ∃ j, i = j + 1 := ⟨i - 1, by omega⟩
        obtain ⟨bi, bio, y0, hix, hy0, hbo, hbd⟩ := hx.idx hlt
        obtain ⟨d1, d2, d3⟩ := hbd _ hy0
        obtain ⟨bj, bjo, z0, hjx, hz0, hco, hcd⟩ := hx.idx (show j < l.length by omega)
        obtain ⟨c1, c2, c3⟩ := hcd _ hz0
        have hw : IntKind.i64.wrap (((j + 1 : Nat) : Int) + 1) = ((j + 1 + 1 : Nat) : Int) := by rw [w64 (by omega)]; omega
        have hw2 : IntKind.i64.wrap (((j + 1 : Nat) : Int) - 1) = (j : Int) := by rw [w64 (by omega)]; omega
        by_cases hk : (l.getD (j + 1) (0, 0)).1 ≤ (l.getD j (0, 0)).1
        · refine .inr ⟨(.ret, [x, .bool false, cv (j + 1 : Nat), .bool true, .bool true], H'), ?_, by simp, rfl, rfl, _, _, _, rfl⟩
          simp -implicitDefEqProofs [-List.getD_eq_getElem?_getD, -Int.natCast_add, F25_b0_v, F25_b0v, hxl, lss_int, h1, hix, hjx, fad_pv, d1, c1, sub_int, hw2, leq_int, hk, add_int, hw, fin]
        · refine .inl ⟨_, _, l.length - (j + 1 + 1), by omega, ?_, rfl, j + 1 + 1, .bool true, .bool false, by omega, rfl, rfl, asc_take hat hlt fun _ => by rw [Nat.add_sub_cancel]; omega⟩
          simp -implicitDefEqProofs [-List.getD_eq_getElem?_getD, -Int.natCast_add, F25_b0_v, F25_b0v, hxl, lss_int, h1, hix, hjx, fad_pv, d1, c1, sub_int, hw2, leq_int, hk, add_int, hw, fin]
      · rw [List.take_of_length_le (by omega)] at hat
        exact absurd hat hasc)
    (l.length - 1) [x, .bool false, cv (1 : Nat), undef, undef] H ⟨rfl, 1, _, _, Nat.le_refl _, rfl, rfl, by cases l <;> simp⟩ n (by omega)
  obtain ⟨e, vs, H'⟩ := r
  simp only at r1 r2 r3
  subst r1 r2 r3
  have e1 : ((1 : Nat) : Int) = 1 := rfl
  rw [e1] at hit
  rw [decide_eq_false hasc]
  simp -implicitDefEqProofs [F25, hit, kBlk, kSeq, up, resK, resL, tupK]
  rfl
/-- The loop that collects what lies from lo to hi. -/
theorem coll_rng {L : ALoop} {b : Nat} {t : TypeId} {q lo hi : Int} (hR : ∀ m y k w H, H.oth y = some (.loop L .ready) → run G (m + 1) (Try.prog.funcs.size + y) [k, w] H = colB y (pv b) k w H) (h : MapR H o p l)
    (hb : H.get b = some ⟨[.slice none 0 0], t, 1, false⟩) (ob : o b = q) (hqp : (p : Int) ≠ q) (hq3 : q ≠ -3) (hn : 4194304 < n) :
    ∃ H' o' x, rngC Try.prog.funcs.size (run G (n + 2)) (fromG (hiH H hi)) L (rngH H p l lo hi) = some (.ready, H') ∧ Fr H o H' o' [q] ∧ H'.get b = some ⟨[x], t, 1, false⟩ ∧ SlP H' o' q x (rng lo hi l) := by
  have f := rngH_fr (H := H) (p := p) (l := l) o lo hi
  have lC := rngH_len (H := H) (p := p) (l := l) lo hi
  have asc := h.asc
  have hbl := get_lt hb
  have obC : rngO H o hi b = q := by rw [rngO_old hbl]; exact ob
  have bC : (rngH H p l lo hi).get b = some ⟨[.slice none 0 0], t, 1, false⟩ := by rw [f.same b hbl (by simp)]; exact hb
  have rl := rng_len lo hi l
  have hfit := h.fits
  obtain ⟨s, H', hrng, hend⟩ := range_rng (G := G) (n := n) (L := L) (lo := lo) (hi := hi) (ps := [q])
    (J := fun i H' => ColJ (rngH H p l lo hi) (rngO H o hi) L b t q (rng lo hi l) (i - mplc l lo) H' ∧ ∀ t, mplc l lo ≤ t → t < i → (l.getD t (0, 0)).1 ≤ hi) (R := fun _ _ => False)
    h (by simpa using hqp) (by simp; omega) hn (fun i H' ⟨⟨x, o', e1, e2, _⟩, _⟩ => ⟨⟨o', e1⟩, e2⟩) (fun _ _ h => h.elim)
    ⟨⟨.slice none 0 0, _, (Fr.refl _ _ _).newO _ 0, oth_newO, by rw [get_slot (slot_newO (get_lt bC))]; exact bC, by rw [Nat.sub_self]; exact .inl ⟨rfl, rfl⟩, by omega⟩, fun t h1 h2 => by omega⟩
    (by
      rintro i H' hi1 hi2 hle ⟨hj, hpre⟩
      obtain ⟨w1, w2⟩ := want_at asc hi2 hi1 fun t h1 h2 => by
        rcases Nat.lt_or_eq_of_le h2 with g | g
        · exact hpre t h1 g
        · subst g; exact hle
      obtain ⟨H'', e1, e2⟩ := col_round (get_lt bC) obC (by omega) w1 hj
      rw [w2] at e1
      obtain ⟨x, o', _, ot, _⟩ := hj
      refine .inl ⟨H'', by rw [hR _ _ _ _ _ ot]; exact e1, by rw [show i + 1 - mplc l lo = i - mplc l lo + 1 by omega]; exact e2, fun t h1 h2 => ?_⟩
      rcases Nat.lt_or_ge t i with g | g
      · exact hpre t h1 g
      · have : t = i := by omega
        subst this; exact hle)
  rcases hend with ⟨rfl, j, hj1, hj2, ⟨⟨x, o', fr, ot, gb, hx, _⟩, hpre⟩, hstop⟩ | ⟨_, _, _, h, _⟩
  case inr => exact h.elim
  have e := want_end asc hj1 hj2 hpre hstop
  rw [← e, List.take_length] at hx
  refine ⟨H'.kill (rngH H p l lo hi).length, o', x, hrng, ((f.wk (by simp)).tr fr).kill (fun h => by omega), by rw [get_kill_ne (by omega)]; exact gb, ?_⟩
  exact hx.mv fun i n c e => ⟨slot_kill (by rintro rfl; exact hx.base_oth ot _ _ e), rfl⟩
/-- list. -/
theorem list_runs (h : MapR H o p l) (lo hi : Int) (hn : 4194304 < n) :
    ∃ x H', run G (n + 6) 31 [pv p, cv lo, cv hi] H = some (x, H') ∧ (∀ Q, SlP H' (o.from H.length Q) Q x (rng lo hi l)) ∧ Ext H H' := by
  rw [F31_eq]
  obtain ⟨H1, e1⟩ : ∃ z, z = H.new ⟨[.slice none 0 0], 27, 1, false⟩ := ⟨_, rfl⟩
  have b1 : Bx H1 ((Fun.oM o p).up H.length (-2)) H.length (-2) 27 (.slice none 0 0) := by rw [e1]; exact Bx.made _ _ _ _ _
  have f1 : Fr H (Fun.oM o p) H1 ((Fun.oM o p).up H.length (-2)) [] := by rw [e1]; exact (Fr.refl _ _ _).new _ _
  have m1 := h.oM.fr f1 (by simp)
  have g1 := Range_runs (G := G) (n := n) m1 lo hi hn
  obtain ⟨H2, o2, x, rc, f2, gb, sx⟩ := coll_rng (G := G) (n := n + 3) (lo := lo) (hi := hi) (L := F31_L0 [pv p, cv lo, cv hi, .slice none 0 0, fromG (hiH H1 hi), undef, undef, pv H.length, undef, undef]) (fun m y k w H h => by rw [F31_R0_eq (h := h)]; kernel_rfl) m1 b1.1 b1.2 (by omega) (by omega) (by omega)
  have fA := (f1.wk (qs := [-2]) (by simp)).tr f2
  refine ⟨x, H2, ?_, fun Q => sx.relabel fun i hi1 hi2 => ?_, Ext.of fA fun i _ hi => ?_⟩
  · simp -implicitDefEqProofs [F31, newBlk, ← e1, g1, rc, kBlk, kSeq, up, F31_j0_v, F31_j0v, ld1_pv _ _ _ gb]
  · rcases Nat.lt_or_ge i H.length with g | g
    · rw [fA.own i g] at hi2
      exact absurd hi2 (oM_neg (by omega))
    · exact from_ge g
  · simp at hi
    exact absurd hi (oM_neg (q := -2) (by omega))
theorem boxT (H : Heap) : boxS 51 (.agg #[.slice none 0 0, .slice none 0 0]) H = some (pv H.length, H.new ⟨[.slice none 0 0, .slice none 0 0], 51, 1, false⟩) := boxM _ _
/-- read. -/
theorem read_runs (hx : SlR H o q x l) (hl : l.length ≤ 4194303) (hn : 4194304 < n) :
    ∃ H', (if Asc (keysOf l) then run KG (n + 5) 23 [x] H = some (.tuple #[pv H.length, .bool true], H') ∧ MapR H' (o.from H.length H.length) H.length l else run KG (n + 5) 23 [x] H = some (.tuple #[.pointer none, .bool false], H')) ∧ Ext H H' := by
  rw [F23_eq]
  have hxl := hx.len
  have x0 : SlR H o0 (-1) x l := hx.relabel fun i _ _ => rfl
  obtain ⟨H1, e1⟩ : ∃ z, z = H.new ⟨[.slice none 0 0, .slice none 0 0], 51, 1, false⟩ := ⟨_, rfl⟩
  have b1 := boxT H
  rw [← e1] at b1
  have m1 : MapR H1 (Owner.up o0 H.length H.length) H.length (l.take 0) := by rw [e1]; exact MapR.fresh H o0 _
  have f1 : Fr H o0 H1 (Owner.up o0 H.length H.length) [(H.length : Int)] := by rw [e1]; exact (Fr.refl _ _ _).new _ _
  have hm1 : (-1 : Int) ∉ [(H.length : Int)] := by simp <;> omega
  obtain ⟨r, hit, hne, o', fR, hr⟩ := iter_go (step := F23_b0 (run KG (n + 4)) (n + 4))
    (Q := fun m vs H' => ∃ (i : Nat) (o' : Owner) (d12 d5 d6 d28 : Value), i ≤ l.length ∧ m = l.length - i ∧ vs = [x, .pointer none, .bool false, cv i, cv l.length, d12, x, d5, d6, d28, pv H.length] ∧ MapR H' o' H.length (l.take i) ∧ Fr H o0 H' o' [(H.length : Int)])
    (R := fun r => ∃ o', Fr H o0 r.2.2 o' [(H.length : Int)] ∧ ((r.1 = .exit 0 ∧ MapR r.2.2 o' H.length l ∧ ∃ d9 d12 d5 d6 d28 : Value, r.2.1 = [x, .pointer none, .bool false, d9, cv l.length, d12, x, d5, d6, d28, pv H.length]) ∨
      (r.1 = .ret ∧ ¬ Asc (keysOf l) ∧ ∃ d9 d12 d5 d6 d28 : Value, r.2.1 = [x, .pointer none, .bool false, d9, cv l.length, d12, x, d5, d6, d28, pv H.length])))
    (by
      rintro m vs H' ⟨i, o', d12, d5, d6, d28, hi, rfl, rfl, hm, hf⟩
      by_cases hlt : i < l.length
      · have h1 : (i : Int) < l.length := by omega
        have xH := x0.fr hf hm1
        obtain ⟨bi, bio, y0, hix, hy0, hbo, hbd⟩ := xH.idx hlt
        obtain ⟨d1, d2, d3⟩ := hbd _ hy0
        obtain ⟨A, eA⟩ : ∃ z, z = (H'.new ⟨[cv 0, cv 0], 26, 1, false⟩).put H'.length ⟨[cv (l.getD i (0, 0)).1, cv (l.getD i (0, 0)).2], 26, 1, false⟩ := ⟨_, rfl⟩
        have tA := st_2 H'.length (l.getD i (0, 0)).1 (l.getD i (0, 0)).2 (H'.new ⟨[cv 0, cv 0], 26, 1, false⟩) get_new
        rw [← eA] at tA
        have gA : A.get H'.length = some ⟨[cv (l.getD i (0, 0)).1, cv (l.getD i (0, 0)).2], 26, 1, false⟩ := by rw [eA]; exact get_put get_new
        have fA : Fr H' o' A (o'.up H'.length (-5)) [] := by rw [eA]; exact ((Fr.refl _ _ _).new _ _).put (fun h => by omega)
        have mA := hm.fr fA (by simp)
        have xA := xH.fr fA (by simp)
        have hsz := hf.size
        have P0 := ld1_pv H'.length 0 A gA
        have P1 := ld1_pv H'.length 1 A gA
        have hw : IntKind.i64.wrap ((i : Int) + 1) = ((i + 1 : Nat) : Int) := by rw [w64 (by omega)]; omega
        have hput : (0 < i → (l.getD (i - 1) (0, 0)).1 < (l.getD i (0, 0)).1) → ∃ w H'' o'', run KG (n + 4) 42 [pv H.length, cv (l.getD i (0, 0)).1, cv (l.getD i (0, 0)).2] A = some (w, H'') ∧ MapR H'' o'' H.length (l.take (i + 1)) ∧ Fr H o0 H'' o'' [(H.length : Int)] := fun hlow => by
          obtain ⟨H'', o'', r1, r2, r3⟩ := Put_runs (n := n) mA (l.getD i (0, 0)).1 (l.getD i (0, 0)).2 (by simp; omega) hn
          rw [asc_snoc (take_below hm.asc hlt hlow)] at r2
          exact ⟨_, H'', o'', r1, by rw [take_at hlt]; exact r2, (hf.tr0 fA).tr r3⟩
        cases i with
        | zero =>
          obtain ⟨w, H'', o'', r1, r2, r3⟩ := hput (fun h => by omega)
          refine .inl ⟨_, H'', l.length - (0 + 1), by omega, ?_, 0 + 1, o'', .bool true, cv (0 : Nat), pv H'.length, .bool false, by omega, rfl, rfl, r2, r3⟩
          simp only [Int.natCast_zero] at hix h1
          simp -implicitDefEqProofs [-List.getD_eq_getElem?_getD, -Int.natCast_pos, F23_b0_v, F23_b0v, lss_int, h1, hix, d3, newBlk, tA, gtr_int, pick_bool, fad_pv, P0, P1, r1, add_int, w64, fin]
        | succ j =>
          have hj : j < l.length := by omega
          obtain ⟨bj, bjo, z0, hjx, hz0, hco, hcd⟩ := xA.idx hj
          obtain ⟨c1, c2, c3⟩ := hcd _ hz0
          have hw2 : IntKind.i64.wrap (((j + 1 : Nat) : Int) - 1) = (j : Int) := by rw [w64 (by omega)]; omega
          have hg : ((j + 1 : Nat) : Int) > 0 := by omega
          by_cases hk : (l.getD (j + 1) (0, 0)).1 ≤ (l.getD j (0, 0)).1
          · refine .inr ⟨(.ret, [x, .pointer none, .bool false, cv (j + 1 : Nat), cv l.length, .bool true, x, cv (j + 1 : Nat), pv H'.length, .bool true, pv H.length], A), ?_, by simp, _, hf.tr0 fA, .inr ⟨rfl, not_asc hlt (by omega) (by rw [Nat.add_sub_cancel]; exact hk), _, _, _, _, _, rfl⟩⟩
            simp -implicitDefEqProofs [-List.getD_eq_getElem?_getD, -Int.natCast_add, -gt_iff_lt, F23_b0_v, F23_b0v, lss_int, h1, hix, d3, newBlk, tA, gtr_int, hg, pick_bool, fad_pv, P0, P1, sub_int, hw2, hjx, c1, leq_int, hk, fin]
          · obtain ⟨w, H'', o'', r1, r2, r3⟩ := hput (fun _ => by rw [Nat.add_sub_cancel]; omega)
            refine .inl ⟨_, H'', l.length - (j + 1 + 1), by omega, ?_, j + 1 + 1, o'', .bool true, cv (j + 1 : Nat), pv H'.length, .bool false, by omega, rfl, rfl, r2, r3⟩
            simp -implicitDefEqProofs [-List.getD_eq_getElem?_getD, -Int.natCast_add, -gt_iff_lt, F23_b0_v, F23_b0v, lss_int, h1, hix, d3, newBlk, tA, gtr_int, hg, pick_bool, fad_pv, P0, P1, sub_int, hw2, hjx, c1, leq_int, hk, r1, add_int, hw, fin]
      · have h1 : ¬ (i : Int) < l.length := by omega
        rw [List.take_of_length_le (by omega)] at hm
        refine .inr ⟨(.exit 0, [x, .pointer none, .bool false, cv i, cv l.length, .bool false, x, d5, d6, d28, pv H.length], H'), ?_, by simp, o', hf, .inl ⟨rfl, hm, _, _, _, _, _, rfl⟩⟩
        simp -implicitDefEqProofs [F23_b0_v, F23_b0v, lss_int, h1, fin])
    (l.length - 0) [x, .pointer none, .bool false, cv (0 : Nat), cv l.length, undef, x, undef, undef, undef, pv H.length] H1 ⟨0, _, _, _, _, _, Nat.zero_le _, rfl, rfl, m1, f1⟩ (n + 4) (by omega)
  obtain ⟨e, vs, H'⟩ := r
  simp only at hr fR
  simp only [Int.natCast_zero] at hit
  have hext : Ext H H' := Ext.of fR fun i hi => hm1
  refine ⟨H', ?_, hext⟩
  rcases hr with ⟨rfl, hm, d9, d12, d5, d6, d28, rfl⟩ | ⟨rfl, hna, d9, d12, d5, d6, d28, rfl⟩
  · rw [if_pos hm.asc]
    refine ⟨?_, hm.relabel fun i hi1 hi2 => ?_⟩
    · simp -implicitDefEqProofs [F23, abM0, b1, hxl, hit, F23_j1_v, F23_j1v]
    · rcases Nat.lt_or_ge i H.length with g | g
      · rw [fR.own i g] at hi2
        exact absurd (show (-1 : Int) = H.length from hi2) (by omega)
      · exact from_ge g
  · rw [if_neg hna]
    simp -implicitDefEqProofs [F23, abM0, b1, hxl, hit, kBlk, kSeq, up, resK, resL, tupK]
    exact ⟨rfl, rfl⟩
end
end Go.Proofs.Ytgakioiplkehgaa.Fun
