
/- ref1's maps (slices of pairs, whoever's) over the abstract machine. -/
import Derived.Test.YtgakioiplkehgaaFun0
import Derived.Test.YtgakioiplkehgaaFun1
import Derived.Test.YtgakioiplkehgaaFun3
import Derived.Test.YtgakioiplkehgaaMapCol
import Derived.Test.YtgakioiplkehgaaAmPr2
namespace Go.Proofs.Ytgakioiplkehgaa.Fun
open Go Go.RowKit Go.Proofs.YtgakioiplkehgaaA.Am
set_option linter.unusedVariables false
set_option linter.unusedSimpArgs false
set_option linter.unnecessarySimpa false
section
variable {G : Oracle} {H : Heap} {o : Owner} {q : Int} {x : Value} {l : PL} {n : Nat}
theorem Place_runs (hx : SlR H o q x l) (hl : l.length ≤ 4194304) (k : Int) (hn : 4194304 < n) : run G (n + 1) 41 [x, cv k] H = some (cv (mplc l k), H) := by
  rw [F41_eq]
  have hxl := hx.len
  obtain ⟨r, hit, hne, r1, r2, d, r3⟩ := iter_go (step := F41_b0 (run G n) n)
    (Q := fun m vs H' => H' = H ∧ ∃ (i : Nat) (d : Value), i ≤ l.length ∧ m = l.length - i ∧ vs = [x, cv k, cv 0, cv i, d] ∧ ∀ j (h : j < (keysOf l).length), j < i → ilt (keysOf l)[j] k = true)
    (R := fun r => r.1 = .exit 0 ∧ r.2.2 = H ∧ ∃ d, r.2.1 = [x, cv k, cv 0, cv (mplc l k), d])
    (by
      rintro m vs H' ⟨rfl, i, d, hi, rfl, rfl, hlo⟩
      by_cases hlt : i < l.length
      · have h1 : (i : Int) < l.length := by omega
        obtain ⟨bi, bo, y0, hix, hy0, hbo, hbd⟩ := hx.idx hlt
        obtain ⟨d1, d2, d3⟩ := hbd _ hy0
        have ek : (keysOf l)[i]'(by simpa using hlt) = (l.getD i (0, 0)).1 := by
          rw [List.getD_eq_getElem?_getD, List.getElem?_eq_getElem hlt]; simp
        by_cases hc : (l.getD i (0, 0)).1 < k
        · have hw : IntKind.i64.wrap ((i : Int) + 1) = ((i + 1 : Nat) : Int) := by rw [w64 (by omega)]; omega
          refine .inl ⟨_, _, l.length - (i + 1), by omega, ?_, rfl, i + 1, .bool true, by omega, rfl, rfl, fun j hj hji => ?_⟩
          · simp -implicitDefEqProofs [-List.getD_eq_getElem?_getD, -Int.natCast_add, F41_b0_v, F41_b0v, hxl, lss_int, h1, hix, fad_pv, d1, hc, pick_bool, add_int, hw, fin]
          · rcases Nat.lt_or_ge j i with g | g
            · exact hlo j hj g
            · obtain rfl : j = i := by omega
              rw [ek]; simpa using hc
        · have hp : mplc l k = i := plc_is ilt (by simp; omega) hlo (fun h => by rw [ek]; simpa using hc)
          refine .inr ⟨(.exit 0, [x, cv k, cv 0, cv i, .bool false], H'), ?_, by simp, rfl, rfl, .bool false, by rw [hp]⟩
          simp -implicitDefEqProofs [-List.getD_eq_getElem?_getD, F41_b0_v, F41_b0v, hxl, lss_int, h1, hix, fad_pv, d1, hc, pick_bool, fin]
      · have h1 : ¬ (i : Int) < l.length := by omega
        have hp : mplc l k = i := plc_is ilt (by simp; omega) hlo (fun h => absurd h (by simp; omega))
        refine .inr ⟨(.exit 0, [x, cv k, cv 0, cv i, .bool false], H'), ?_, by simp, rfl, rfl, .bool false, by rw [hp]⟩
        simp -implicitDefEqProofs [F41_b0_v, F41_b0v, hxl, lss_int, h1, pick_bool, fin])
    (l.length - 0) [x, cv k, cv 0, cv (0 : Nat), undef] H ⟨rfl, 0, _, Nat.zero_le _, rfl, rfl, fun j _ h => by omega⟩ n (by omega)
  obtain ⟨e, vs, H'⟩ := r
  simp only at r1 r2 r3
  subst r1 r2 r3
  simp only [Int.natCast_zero] at hit
  simp -implicitDefEqProofs [F41, hit, F41_j1_v, F41_j1v]
theorem mhas_no {l : PL} {k : Int} (h : mhas l k = false) : ¬ (mplc l k < l.length ∧ (l.getD (mplc l k) (0, 0)).1 = k) := by
  rintro ⟨h1, h2⟩
  have : mhas l k = true := by
    unfold mhas hasK
    rw [decide_eq_true_eq]
    change (keysOf l)[mplc l k]? = some k
    rw [List.getElem?_map, List.getElem?_eq_getElem h1]
    rw [List.getD_eq_getElem?_getD, List.getElem?_eq_getElem h1] at h2
    simpa using h2
  rw [this] at h; cases h
theorem RGet_runs (hx : SlR H o q x l) (hl : l.length ≤ 4194304) (k : Int) (hn : 4194304 < n) : run G (n + 2) 26 [x, cv k] H = some (.tuple #[cv (mget l k), .bool (mhas l k)], H) := by
  rw [F26_eq]
  have hxl := hx.len
  have hp := Place_runs (G := G) hx hl k hn
  cases hc : mhas l k with
  | true =>
    obtain ⟨h1, h2⟩ := mhas_lt hc
    have h1' : ((mplc l k : Nat) : Int) < l.length := by omega
    obtain ⟨bi, bo, y0, hix, hy0, hbo, hbd⟩ := hx.idx h1
    obtain ⟨d1, d2, d3⟩ := hbd _ hy0
    rw [h2] at d1
    simp -implicitDefEqProofs [-List.getD_eq_getElem?_getD, F26, hp, hxl, lss_int, h1', hix, fad_pv, d1, d2, eql_int, pick_bool, mget, hc]
  | false =>
    have hno := mhas_no hc
    by_cases h1 : mplc l k < l.length
    · have h1' : ((mplc l k : Nat) : Int) < l.length := by omega
      have h2 : ¬ (l.getD (mplc l k) (0, 0)).1 = k := fun h => hno ⟨h1, h⟩
      obtain ⟨bi, bo, y0, hix, hy0, hbo, hbd⟩ := hx.idx h1
      obtain ⟨d1, d2, d3⟩ := hbd _ hy0
      simp -implicitDefEqProofs [-List.getD_eq_getElem?_getD, F26, hp, hxl, lss_int, h1', hix, fad_pv, d1, eql_int, h2, pick_bool, mget, hc]
    · have h1' : ¬ ((mplc l k : Nat) : Int) < l.length := by omega
      simp -implicitDefEqProofs [F26, hp, hxl, lss_int, h1', pick_bool, mget, hc]
/-! what is new of it: whose it is may be told afterwards -/
abbrev oI (H : Heap) : Owner := Owner.from (fun _ => 0) H.length 1
theorem oI_lt {H : Heap} {i : Nat} (h : i < H.length) : oI H i = 0 := from_lt h
theorem newP {H' : Heap} {o1 : Owner} {x' : Value} {l' : PL} (hx : SlP H' o1 1 x' l') (f : Fr H (oI H) H' o1 [1]) (Q : Int) : SlP H' (o.from H.length Q) Q x' l' ∧ (∀ j, j < H.length → H'[j]? = H[j]?) ∧ H.length ≤ H'.length := by
  refine ⟨hx.relabel fun i hi h => ?_, fun j hj => f.slot j hj (by rw [oI_lt hj]; simp), f.size⟩
  rcases Nat.lt_or_ge i H.length with g | g
  · rw [f.own i g, oI_lt g] at h; simp at h
  · exact from_ge g
theorem bsP0 (H : Heap) : abuildSlice Try.prog 27 0 [] H = some (.slice (some ⟨H.length, 0, none⟩) 0 0, H.new ⟨[], 26, 2, false⟩) := by kernel_rfl
/-- The first ones, copied. -/
theorem head_runs (hx : SlR H o q x l) (hl : l.length ≤ 4194304) {m : Nat} (hm : m ≤ l.length) :
    ∃ y x' H' o', scut 2 (H.new ⟨[], 26, 2, false⟩) x none (some (cv m)) = some y ∧ appS 26 2 16 (.slice (some ⟨H.length, 0, none⟩) 0 0) y (H.new ⟨[], 26, 2, false⟩) = some (x', H') ∧ SlP H' o' 1 x' (l.take m) ∧ Fr H (oI H) H' o' [1] ∧ SlR H' o' 0 x l := by
  have h0 : SlR H (oI H) 0 x l := hx.relabel fun i hi _ => oI_lt hi
  obtain ⟨H1, e1⟩ : ∃ y, y = H.new ⟨[], 26, 2, false⟩ := ⟨_, rfl⟩
  have f1 : Fr H (oI H) H1 ((oI H).up H.length 1) [1] := by rw [e1]; exact (Fr.refl _ _ _).new _ _
  have x1 := h0.fr f1 (by simp)
  have s1 : SlP H1 ((oI H).up H.length 1) 1 (.slice (some ⟨H.length, 0, none⟩) 0 0) [] := .inr ⟨H.length, 0, [], 26, rfl, by rw [e1]; exact get_new, rfl, up_self⟩
  obtain ⟨y, hy, sy⟩ := x1.cutTo hm
  obtain ⟨x', H', o', ha, xs, f2, _⟩ := s1.app 26 sy (by simp; omega)
  rw [← e1]
  exact ⟨y, x', H', o', hy, ha, by simpa using xs, f1.tr f2, x1.fr f2 (by simp)⟩
theorem RPut_runs (hx : SlR H o q x l) (hl : l.length ≤ 4194303) (k v : Int) (hn : 4194304 < n) :
    ∃ x' H', run G (n + 2) 22 [x, cv k, cv v] H = some (x', H') ∧ (∀ Q, SlP H' (o.from H.length Q) Q x' (mput l k v)) ∧ (∀ j, j < H.length → H'[j]? = H[j]?) ∧ H.length ≤ H'.length := by
  rw [F22_eq]
  have hxl := hx.len
  have hp := Place_runs (G := G) hx (by omega) k hn
  have hle := mplc_le l k
  obtain ⟨y, x1, H1, o1, hy, ha, s1, f1, xx1⟩ := head_runs hx (by omega) hle
  obtain ⟨H2, e2⟩ : ∃ z, z = H1.new ⟨[cv k, cv v], 26, 2, false⟩ := ⟨_, rfl⟩
  have f2 : Fr H1 o1 H2 (o1.up H1.length 2) [1] := by rw [e2]; exact (Fr.refl _ _ _).new _ _
  have hbs := bsP k v H1
  rw [← e2] at hbs
  have gs : H2.get H1.length = some ⟨[cv k, cv v], 26, 2, false⟩ := by rw [e2]; exact get_new
  have s2 : SlP H2 (o1.up H1.length 2) 1 x1 (l.take (mplc l k)) := s1.mv fun i a c e => by
    have hi : i < H1.length := by
      rcases s1 with ⟨rfl, _⟩ | ⟨i', cap, rest, ty, rfl, h2, _⟩
      · cases e
      · cases e; exact get_lt h2
    exact ⟨by rw [e2, slot_new hi], up_ne (by omega)⟩
  have xx2 := xx1.fr f2 (by simp)
  obtain ⟨x3, H3, o3, ha3, s3, f3, _⟩ := s2.app 26 (Src.one gs) (by simp; omega)
  have xx3 := xx2.fr f3 (by simp)
  have hlt : (if mhas l k then mplc l k + 1 else mplc l k) ≤ l.length := by
    split
    · rename_i hc; have := (mhas_lt hc).1; omega
    · exact hle
  obtain ⟨z, hz, sz⟩ := xx3.cutFrom hlt
  obtain ⟨x4, H4, o4, ha4, s4, f4, _⟩ := s3.app 26 sz (by simp; omega)
  have heq : (l.take (mplc l k) ++ [(k, v)]) ++ l.drop (if mhas l k then mplc l k + 1 else mplc l k) = mput l k v := by unfold mput; simp
  rw [heq] at s4
  have fAll := ((f1.tr f2).tr f3).tr f4
  refine ⟨x4, H4, ?_, fun Q => (newP s4 fAll Q).1, (newP (o := o) s4 fAll 0).2.1, fAll.size⟩
  have b0 := bsP0 H
  have hw : IntKind.i64.wrap ((mplc l k : Int) + 1) = ((mplc l k + 1 : Nat) : Int) := by rw [w64 (by omega)]; omega
  cases hc : mhas l k with
  | true =>
    rw [hc] at hz
    simp only [if_true] at hz
    obtain ⟨h1, h2⟩ := mhas_lt hc
    have h1' : ((mplc l k : Nat) : Int) < l.length := by omega
    obtain ⟨bi, bo, y0, hix, hy0, hbo, hbd⟩ := xx3.idx h1
    obtain ⟨d1, d2, d3⟩ := hbd _ hy0
    rw [h2] at d1
    simp -implicitDefEqProofs [-List.getD_eq_getElem?_getD, -Int.natCast_add, F22, F22_j0_v, F22_j0v, hp, b0, hy, ha, abP, hbs, ha3, hxl, lss_int, h1', hix, fad_pv, d1, eql_int, pick_bool, add_int, hw, hz, ha4]
  | false =>
    rw [hc] at hz
    simp only [Bool.false_eq_true, if_false] at hz
    have hno := mhas_no hc
    by_cases h1 : mplc l k < l.length
    · have h1' : ((mplc l k : Nat) : Int) < l.length := by omega
      have h2 : ¬ (l.getD (mplc l k) (0, 0)).1 = k := fun h => hno ⟨h1, h⟩
      obtain ⟨bi, bo, y0, hix, hy0, hbo, hbd⟩ := xx3.idx h1
      obtain ⟨d1, d2, d3⟩ := hbd _ hy0
      simp -implicitDefEqProofs [-List.getD_eq_getElem?_getD, F22, F22_j0_v, F22_j0v, hp, b0, hy, ha, abP, hbs, ha3, hxl, lss_int, h1', hix, fad_pv, d1, eql_int, h2, pick_bool, hz, ha4]
    · have h1' : ¬ ((mplc l k : Nat) : Int) < l.length := by omega
      simp -implicitDefEqProofs [F22, F22_j0_v, F22_j0v, hp, b0, hy, ha, abP, hbs, ha3, hxl, lss_int, h1', pick_bool, hz, ha4]
theorem RDel_runs (hx : SlR H o q x l) (hl : l.length ≤ 4194303) (k : Int) (hn : 4194304 < n) :
    ∃ x' H', run G (n + 2) 33 [x, cv k] H = some (x', H') ∧ (∀ Q, SlP H' (o.from H.length Q) Q x' (mdel l k)) ∧ (∀ j, j < H.length → H'[j]? = H[j]?) ∧ H.length ≤ H'.length := by
  rw [F33_eq]
  have hxl := hx.len
  have hp := Place_runs (G := G) hx (by omega) k hn
  have hle := mplc_le l k
  obtain ⟨y, x1, H1, o1, hy, ha, s1, f1, xx1⟩ := head_runs hx (by omega) hle
  have hlt : (if mhas l k then mplc l k + 1 else mplc l k) ≤ l.length := by
    split
    · rename_i hc; have := (mhas_lt hc).1; omega
    · exact hle
  obtain ⟨z, hz, sz⟩ := xx1.cutFrom hlt
  obtain ⟨x4, H4, o4, ha4, s4, f4, _⟩ := s1.app 26 sz (by simp; omega)
  have heq : l.take (mplc l k) ++ l.drop (if mhas l k then mplc l k + 1 else mplc l k) = mdel l k := rfl
  rw [heq] at s4
  have fAll := f1.tr f4
  refine ⟨x4, H4, ?_, fun Q => (newP s4 fAll Q).1, (newP (o := o) s4 fAll 0).2.1, fAll.size⟩
  have b0 := bsP0 H
  have hw : IntKind.i64.wrap ((mplc l k : Int) + 1) = ((mplc l k + 1 : Nat) : Int) := by rw [w64 (by omega)]; omega
  cases hc : mhas l k with
  | true =>
    rw [hc] at hz
    simp only [if_true] at hz
    obtain ⟨h1, h2⟩ := mhas_lt hc
    have h1' : ((mplc l k : Nat) : Int) < l.length := by omega
    obtain ⟨bi, bo, y0, hix, hy0, hbo, hbd⟩ := xx1.idx h1
    obtain ⟨d1, d2, d3⟩ := hbd _ hy0
    rw [h2] at d1
    simp -implicitDefEqProofs [-List.getD_eq_getElem?_getD, -Int.natCast_add, F33, F33_j0_v, F33_j0v, hp, b0, hy, ha, hxl, lss_int, h1', hix, fad_pv, d1, eql_int, pick_bool, add_int, hw, hz, ha4]
  | false =>
    rw [hc] at hz
    simp only [Bool.false_eq_true, if_false] at hz
    have hno := mhas_no hc
    by_cases h1 : mplc l k < l.length
    · have h1' : ((mplc l k : Nat) : Int) < l.length := by omega
      have h2 : ¬ (l.getD (mplc l k) (0, 0)).1 = k := fun h => hno ⟨h1, h⟩
      obtain ⟨bi, bo, y0, hix, hy0, hbo, hbd⟩ := xx1.idx h1
      obtain ⟨d1, d2, d3⟩ := hbd _ hy0
      simp -implicitDefEqProofs [-List.getD_eq_getElem?_getD, F33, F33_j0_v, F33_j0v, hp, b0, hy, ha, hxl, lss_int, h1', hix, fad_pv, d1, eql_int, h2, pick_bool, hz, ha4]
    · have h1' : ¬ ((mplc l k : Nat) : Int) < l.length := by omega
      simp -implicitDefEqProofs [F33, F33_j0_v, F33_j0v, hp, b0, hy, ha, hxl, lss_int, h1', pick_bool, hz, ha4]
/-! pairs as results -/
abbrev agg2 (a b : Int) : Value := .agg #[cv a, cv b]
theorem st_2 (b : Nat) (a c : Int) {u v : Value} {t : TypeId} {es : Nat} (H : Heap) (h : H.get b = some ⟨[u, v], t, es, false⟩) : stS 2 (.pointer (some ⟨b, 0, none⟩)) (agg2 a c) H = some (undef, H.put b ⟨[cv a, cv c], t, es, false⟩) := by
  simp [stS, stCells, h, Value.cells, known, oneCell, splice]
theorem ld_2 (b : Nat) (a c : Int) {t : TypeId} {es : Nat} (H : Heap) (h : H.get b = some ⟨[cv a, cv c], t, es, false⟩) : ldn 2 (.pointer (some ⟨b, 0, none⟩)) H = some (agg2 a c) := by
  simp [ldn, ldCells, h]
theorem abP0 : abuild Try.prog 26 [] = some (agg2 0 0) := by kernel_rfl
abbrev tup2 (x : Int × Int × Bool) : Value := .tuple #[agg2 x.1 x.2.1, .bool x.2.2]
theorem RFloor_runs (hx : SlR H o q x l) (hl : l.length ≤ 4194304) (k : Int) (hn : 4194304 < n) :
    ∃ H', run G (n + 2) 28 [x, cv k] H = some (tup2 (mfloor l k), H') ∧ (∀ j, j < H.length → H'[j]? = H[j]?) ∧ H.length ≤ H'.length := by
  rw [F28_eq]
  obtain ⟨H1, e1⟩ : ∃ y, y = H.new ⟨[cv 0, cv 0], 26, 1, false⟩ := ⟨_, rfl⟩
  have g1 : H1.get H.length = some ⟨[cv 0, cv 0], 26, 1, false⟩ := by rw [e1]; exact get_new
  have x1 : SlR H1 (o.up H.length (q - 1)) q x l := by rw [e1]; exact hx.fr ((Fr.refl H o []).new _ _) (by simp)
  have hxl := hx.len
  have hp := Place_runs (G := G) x1 hl k hn
  have hle := mplc_le l k
  have hs : ∀ c, (∀ j, j < H.length → (H1.put H.length c)[j]? = H[j]?) ∧ H.length ≤ (H1.put H.length c).length := fun c => ⟨fun j hj => by rw [slot_put (by omega), e1, slot_new hj], by rw [put_len, e1, new_len]; omega⟩
  have e1' : H.new ⟨[Value.int .i64 0, Value.int .i64 0], 26, 1, false⟩ = H1 := e1.symm
  cases hc : mhas l k with
  | true =>
    obtain ⟨h1, h2⟩ := mhas_lt hc
    have h1' : ((mplc l k : Nat) : Int) < l.length := by omega
    obtain ⟨bi, bo, y0, hix, hy0, hbo, hbd⟩ := x1.idx h1
    obtain ⟨d1, d2, d3⟩ := hbd _ hy0
    have hf : mfloor l k = ((l.getD (mplc l k) (0, 0)).1, (l.getD (mplc l k) (0, 0)).2, true) := by unfold mfloor mpair; rw [hc, if_pos rfl, if_pos (by omega), Int.toNat_natCast]
    refine ⟨_, ?_, hs ⟨[cv (l.getD (mplc l k) (0, 0)).1, cv (l.getD (mplc l k) (0, 0)).2], 26, 1, false⟩⟩
    simp -implicitDefEqProofs [-List.getD_eq_getElem?_getD, F28, newBlk, e1', hp, hxl, lss_int, h1', hix, fad_pv, d1, h2, eql_int, pick_bool, d3, st_2 _ _ _ _ g1, ld_2 _ _ _ _ (get_put g1), hf]
  | false =>
    have hno := mhas_no hc
    by_cases h0 : mplc l k = 0
    · have hf : mfloor l k = (0, 0, false) := by unfold mfloor mpair; rw [hc]; simp only [Bool.false_eq_true, if_false]; rw [if_neg (by omega)]
      refine ⟨_, ?_, hs ⟨[cv 0, cv 0], 26, 1, false⟩⟩
      by_cases h1 : 0 < l.length
      · have h1' : (0 : Int) < l.length := by omega
        have h2 : ¬ (l.getD 0 (0, 0)).1 = k := fun h => hno ⟨by omega, by rw [h0]; exact h⟩
        obtain ⟨bi, bo, y0, hix, hy0, hbo, hbd⟩ := x1.idx h1
        obtain ⟨d1, d2, d3⟩ := hbd _ hy0
        simp only [Int.natCast_zero, Nat.mul_zero] at hix d1
        simp only [h0, Int.natCast_zero] at hp
        simp -implicitDefEqProofs [-List.getD_eq_getElem?_getD, -Int.natCast_pos, F28, newBlk, e1', hp, hxl, lss_int, h1', hix, fad_pv, d1, h2, eql_int, pick_bool, abP0, st_2 _ _ _ _ g1, ld_2 _ _ _ _ (get_put g1), hf]
      · have h1' : ¬ (0 : Int) < l.length := by omega
        simp only [h0, Int.natCast_zero] at hp
        simp -implicitDefEqProofs [-Int.natCast_pos, F28, newBlk, e1', hp, hxl, lss_int, h1', eql_int, pick_bool, abP0, st_2 _ _ _ _ g1, ld_2 _ _ _ _ (get_put g1), hf]
    · obtain ⟨m, hm⟩ : ∃ m, mplc l k = m + 1 := ⟨mplc l k - 1, by omega⟩
      have hw : IntKind.i64.wrap ((mplc l k : Int) - 1) = ((m : Nat) : Int) := by rw [w64 (by omega)]; omega
      have hml : m < l.length := by omega
      have h0' : ¬ ((mplc l k : Nat) : Int) = 0 := by omega
      have hf : mfloor l k = ((l.getD m (0, 0)).1, (l.getD m (0, 0)).2, true) := by
        unfold mfloor mpair
        rw [hc]; simp only [Bool.false_eq_true, if_false]
        rw [if_pos (by omega), show ((mplc l k : Int) - 1).toNat = m by omega]
      obtain ⟨bm, bmo, ym, hixm, hym, hbom, hbdm⟩ := x1.idx hml
      obtain ⟨m1, m2, m3⟩ := hbdm _ hym
      refine ⟨_, ?_, hs ⟨[cv (l.getD m (0, 0)).1, cv (l.getD m (0, 0)).2], 26, 1, false⟩⟩
      by_cases h1 : mplc l k < l.length
      · have h1' : ((mplc l k : Nat) : Int) < l.length := by omega
        have h2 : ¬ (l.getD (mplc l k) (0, 0)).1 = k := fun h => hno ⟨h1, h⟩
        obtain ⟨bi, bo, y0, hix, hy0, hbo, hbd⟩ := x1.idx h1
        obtain ⟨d1, d2, d3⟩ := hbd _ hy0
        simp -implicitDefEqProofs [-List.getD_eq_getElem?_getD, F28, newBlk, e1', hp, hxl, lss_int, h1', hix, fad_pv, d1, h2, eql_int, pick_bool, h0, h0', sub_int, hw, hixm, m3, st_2 _ _ _ _ g1, ld_2 _ _ _ _ (get_put g1), hf]
      · have h1' : ¬ ((mplc l k : Nat) : Int) < l.length := by omega
        simp -implicitDefEqProofs [-List.getD_eq_getElem?_getD, F28, newBlk, e1', hp, hxl, lss_int, h1', eql_int, pick_bool, h0, h0', sub_int, hw, hixm, m3, st_2 _ _ _ _ g1, ld_2 _ _ _ _ (get_put g1), hf]
theorem RCeiling_runs (hx : SlR H o q x l) (hl : l.length ≤ 4194304) (k : Int) (hn : 4194304 < n) :
    ∃ H', run G (n + 2) 29 [x, cv k] H = some (tup2 (mceil l k), H') ∧ (∀ j, j < H.length → H'[j]? = H[j]?) ∧ H.length ≤ H'.length := by
  rw [F29_eq]
  obtain ⟨H1, e1⟩ : ∃ y, y = H.new ⟨[cv 0, cv 0], 26, 1, false⟩ := ⟨_, rfl⟩
  have g1 : H1.get H.length = some ⟨[cv 0, cv 0], 26, 1, false⟩ := by rw [e1]; exact get_new
  have x1 : SlR H1 (o.up H.length (q - 1)) q x l := by rw [e1]; exact hx.fr ((Fr.refl H o []).new _ _) (by simp)
  have hxl := hx.len
  have hp := Place_runs (G := G) x1 hl k hn
  have hle := mplc_le l k
  have hs : ∀ c, (∀ j, j < H.length → (H1.put H.length c)[j]? = H[j]?) ∧ H.length ≤ (H1.put H.length c).length := fun c => ⟨fun j hj => by rw [slot_put (by omega), e1, slot_new hj], by rw [put_len, e1, new_len]; omega⟩
  have e1' : H.new ⟨[Value.int .i64 0, Value.int .i64 0], 26, 1, false⟩ = H1 := e1.symm
  by_cases h1 : mplc l k < l.length
  · have h1n : ¬ mplc l k = l.length := by omega
    have h1' : ¬ ((mplc l k : Nat) : Int) = l.length := by omega
    obtain ⟨bi, bo, y0, hix, hy0, hbo, hbd⟩ := x1.idx h1
    obtain ⟨d1, d2, d3⟩ := hbd _ hy0
    have hf : mceil l k = ((l.getD (mplc l k) (0, 0)).1, (l.getD (mplc l k) (0, 0)).2, true) := by unfold mceil mpair; rw [if_pos (by omega), Int.toNat_natCast]
    refine ⟨_, ?_, hs ⟨[cv (l.getD (mplc l k) (0, 0)).1, cv (l.getD (mplc l k) (0, 0)).2], 26, 1, false⟩⟩
    simp -implicitDefEqProofs [-List.getD_eq_getElem?_getD, F29, newBlk, e1', hp, hxl, eql_int, h1', h1n, hix, d3, st_2 _ _ _ _ g1, ld_2 _ _ _ _ (get_put g1), hf]
  · have h1n : mplc l k = l.length := by omega
    have h1' : ((mplc l k : Nat) : Int) = l.length := by omega
    have hf : mceil l k = (0, 0, false) := by unfold mceil mpair; rw [if_neg (by omega)]
    refine ⟨_, ?_, hs ⟨[cv 0, cv 0], 26, 1, false⟩⟩
    simp -implicitDefEqProofs [F29, newBlk, e1', hp, hxl, eql_int, h1', h1n, abP0, st_2 _ _ _ _ g1, ld_2 _ _ _ _ (get_put g1), hf]
end
end Go.Proofs.Ytgakioiplkehgaa.Fun
