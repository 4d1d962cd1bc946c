/- omap's functions for texts as keys, over the abstract machine. -/
import Derived.Test.YtdgolnenpnkjbaaFun0
import Derived.Test.YtdgolnenpnkjbaaFun1
import Derived.Test.YtdgolnenpnkjbaaFun2
import Derived.Test.YtdgolnenpnkjbaaFun3
import Derived.Test.YtdgolnenpnkjbaaOmap3
namespace Go.Proofs.Ytdgolnenpnkjbaa.Fun
open Go Go.RowKit Go.Proofs.YtdgolnenpnkjbaaA.Am
set_option linter.unusedVariables false
set_option linter.unusedSimpArgs false
set_option linter.unnecessarySimpa false
/-! the order of texts -/
theorem bl_irrefl : ∀ x : List UInt8, Op.bytesLess x x = false
  | [] => by simp [Op.bytesLess]
  | a :: x => by
    have : ¬ a < a := by rw [UInt8.lt_iff_toNat_lt]; omega
    simp [Op.bytesLess, this, bl_irrefl x]
theorem bl_trans : ∀ {x y z : List UInt8}, Op.bytesLess x y = true → Op.bytesLess y z = true → Op.bytesLess x z = true
  | [], [], z, h, _ => by simp [Op.bytesLess] at h
  | _ :: _, [], z, h, _ => by simp [Op.bytesLess] at h
  | _, _ :: _, [], _, h => by simp [Op.bytesLess] at h
  | [], _ :: _, _ :: _, _, _ => by simp [Op.bytesLess]
  | a :: x, b :: y, c :: z, h, k => by
    simp only [Op.bytesLess, Bool.or_eq_true, Bool.and_eq_true, decide_eq_true_eq, beq_iff_eq] at h k ⊢
    rcases h with h | ⟨rfl, h⟩
    · rcases k with k | ⟨rfl, k⟩
      · left; rw [UInt8.lt_iff_toNat_lt] at *; omega
      · exact .inl h
    · rcases k with k | ⟨rfl, k⟩
      · exact .inl k
      · exact .inr ⟨rfl, bl_trans h k⟩
theorem bl_tri : ∀ {x y : List UInt8}, Op.bytesLess x y = false → Op.bytesLess y x = false → x = y
  | [], [], _, _ => rfl
  | [], _ :: _, h, _ => by simp [Op.bytesLess] at h
  | _ :: _, [], _, h => by simp [Op.bytesLess] at h
  | a :: x, b :: y, h, k => by
    simp only [Op.bytesLess, Bool.or_eq_false_iff, Bool.and_eq_false_iff, decide_eq_false_iff_not, beq_eq_false_iff_ne] at h k
    have e : a = b := by
      apply UInt8.toNat_inj.1
      have h1 := h.1
      have k1 := k.1
      rw [UInt8.lt_iff_toNat_lt] at h1 k1
      omega
    subst e
    have h2 := h.2.resolve_left (by simp)
    have k2 := k.2.resolve_left (by simp)
    rw [bl_tri h2 k2]
theorem toList_inj {a b : ByteArray} (h : a.toList = b.toList) : a = b := by
  rw [ByteArray.toList_eq, ByteArray.toList_eq] at h
  exact ByteArray.ext (Array.toList_inj.1 h)
abbrev slt : ByteArray → ByteArray → Bool := strLess
theorem slt_irrefl (a : ByteArray) : slt a a = false := bl_irrefl _
theorem slt_trans {a b c : ByteArray} (h : slt a b = true) (k : slt b c = true) : slt a c = true := bl_trans h k
theorem slt_tri {a b : ByteArray} (h : slt a b = false) (k : slt b a = false) : a = b := toList_inj (bl_tri h k)
theorem slt_asym {a b : ByteArray} (h : slt a b = true) : slt b a = false := by
  cases k : slt b a with
  | false => rfl
  | true => have := slt_trans h k; rw [slt_irrefl] at this; cases this
theorem slt_ne {a b : ByteArray} (h : slt a b = true) : a ≠ b := by rintro rfl; rw [slt_irrefl] at h; cases h
theorem beq_str (a b : ByteArray) : (a.toList == b.toList) = decide (a = b) := by
  rw [Bool.eq_iff_iff, beq_iff_eq, decide_eq_true_iff]
  exact ⟨toList_inj, fun h => by rw [h]⟩
theorem lss_str (t : TypeId) (a b : ByteArray) : abin Try.prog .lss t (.string a) (.string b) = some (.bool (slt a b)) := rfl
theorem leq_str (t : TypeId) (a b : ByteArray) : abin Try.prog .leq t (.string a) (.string b) = some (.bool (slt a b || decide (a = b))) := by
  rw [← beq_str]; rfl
theorem eql_str (t : TypeId) (a b : ByteArray) : abin Try.prog .eql t (.string a) (.string b) = some (.bool (decide (a = b))) := by
  rw [← beq_str]; rfl
theorem neq_str (t : TypeId) (a b : ByteArray) : abin Try.prog .neq t (.string a) (.string b) = some (.bool (!decide (a = b))) := by
  rw [← beq_str]; rfl
abbrev AscS (ks : List ByteArray) : Prop := ks.Pairwise fun a b => slt a b = true
abbrev svs (l : List ByteArray) : List Value := l.map Value.string
abbrev bvs (l : List Bool) : List Value := l.map Value.bool
abbrev splc (ks : List ByteArray) (k : ByteArray) : Nat := plc slt ks k
def hasS (ks : List ByteArray) (k : ByteArray) : Bool := decide (ks[splc ks k]? = some k)
def kput (ks : List ByteArray) (k : ByteArray) : List ByteArray := if hasS ks k then ks else ks.take (splc ks k) ++ k :: ks.drop (splc ks k)
theorem splc_lo {ks : List ByteArray} {k : ByteArray} : ∀ {j : Nat} (h : j < ks.length), j < splc ks k → slt ks[j] k = true := by
  induction ks with
  | nil => intro j h; simp at h
  | cons a ks ih =>
    intro j h hj
    by_cases ha : slt a k = true
    · have e : splc (a :: ks) k = splc ks k + 1 := by simp [splc, plc, List.takeWhile_cons, ha]
      cases j with
      | zero => exact ha
      | succ j => exact ih (by simpa using h) (by omega)
    · have e : splc (a :: ks) k = 0 := by simp [splc, plc, List.takeWhile_cons, ha]
      omega
theorem splc_hi {ks : List ByteArray} {k : ByteArray} (h : splc ks k < ks.length) : slt ks[splc ks k] k = false := by
  induction ks with
  | nil => simp at h
  | cons a ks ih =>
    by_cases ha : slt a k = true
    · have e : splc (a :: ks) k = splc ks k + 1 := by simp [splc, plc, List.takeWhile_cons, ha]
      simp only [e] at h ⊢
      simpa using ih (by simpa using h)
    · have e : splc (a :: ks) k = 0 := by simp [splc, plc, List.takeWhile_cons, ha]
      simp only [e]
      simpa using ha
theorem hasS_lt {ks : List ByteArray} {k : ByteArray} (h : hasS ks k = true) : splc ks k < ks.length := by
  unfold hasS at h
  rw [decide_eq_true_eq] at h
  exact (List.getElem?_eq_some_iff.1 h).1
/-- Who is in it is found. -/
theorem hasS_mem {ks : List ByteArray} {k : ByteArray} (ha : AscS ks) (h : k ∈ ks) : hasS ks k = true := by
  obtain ⟨j, hj, rfl⟩ := List.getElem_of_mem h
  have hp : splc ks ks[j] = j := plc_is slt (by omega) (fun t ht htj => List.pairwise_iff_getElem.1 ha t j ht hj htj) (fun _ => slt_irrefl _)
  unfold hasS
  rw [decide_eq_true_eq, hp, List.getElem?_eq_getElem hj]
theorem asc_kput {ks : List ByteArray} {k : ByteArray} (ha : AscS ks) : AscS (kput ks k) := by
  unfold kput
  cases hc : hasS ks k with
  | true => exact ha
  | false =>
    simp only [Bool.false_eq_true, if_false]
    have hlo : ∀ x ∈ ks.take (splc ks k), slt x k = true := by
      intro x hx
      obtain ⟨j, hj, rfl⟩ := List.getElem_of_mem hx
      rw [List.length_take] at hj
      rw [List.getElem_take]
      exact splc_lo (by omega) (by omega)
    have hhi : ∀ x ∈ ks.drop (splc ks k), slt k x = true := by
      intro x hx
      obtain ⟨j, hj, rfl⟩ := List.getElem_of_mem hx
      rw [List.length_drop] at hj
      rw [List.getElem_drop]
      have hp : splc ks k < ks.length := by omega
      have h1 := splc_hi hp
      have h3 : slt k ks[splc ks k] = true := by
        cases h4 : slt k ks[splc ks k] with
        | true => rfl
        | false =>
          have := slt_tri h1 h4
          unfold hasS at hc
          rw [List.getElem?_eq_getElem hp, this] at hc
          simp at hc
      cases j with
      | zero => exact h3
      | succ j => exact slt_trans h3 (List.pairwise_iff_getElem.1 ha (splc ks k) (splc ks k + (j + 1)) hp (by omega) (by omega))
    refine List.pairwise_append.2 ⟨ha.sublist (List.take_sublist _ _), List.pairwise_cons.2 ⟨hhi, ha.sublist (List.drop_sublist _ _)⟩, fun a h b hb => ?_⟩
    rcases List.mem_cons.1 hb with rfl | hb
    · exact hlo a h
    · exact slt_trans (hlo a h) (hhi b hb)
theorem len_kput (ks : List ByteArray) (k : ByteArray) : (kput ks k).length = if hasS ks k then ks.length else ks.length + 1 := by
  unfold kput
  have := plc_le slt ks k
  split
  · rfl
  · simp; omega
theorem kput_old {ks : List ByteArray} {k x : ByteArray} (h : x ∈ ks) : x ∈ kput ks k := by
  unfold kput
  split
  · exact h
  · rw [← List.take_append_drop (splc ks k) ks] at h
    rcases List.mem_append.1 h with h | h
    · exact List.mem_append_left _ h
    · exact List.mem_append_right _ (List.mem_cons_of_mem _ h)
theorem kput_new (ks : List ByteArray) (k : ByteArray) : k ∈ kput ks k := by
  unfold kput
  split
  · rename_i h
    unfold hasS at h
    rw [decide_eq_true_eq] at h
    exact List.mem_of_getElem? h
  · simp
section
variable {G : Oracle} {H : Heap} {o : Owner} {p : Int} {b : Option Nat} {s : Value} {ks : List ByteArray} {n : Nat}
theorem nanS_runs (a : ByteArray) : run G (n + 1) 64 [.string a] H = some (.bool false, H) := by
  rw [F64_eq]
  simp -implicitDefEqProofs [F64, neq_str]
theorem snanS_runs (a : ByteArray) : run G (n + 1) 53 [.string a] H = some (.bool false, H) := by
  rw [F53_eq]
  simp -implicitDefEqProofs [F53, neq_str]
theorem lessS_runs (a c : ByteArray) : run G (n + 2) 52 [.string a, .string c] H = some (.bool (slt a c), H) := by
  rw [F52_eq]
  simp -implicitDefEqProofs [F52, nanS_runs, pick_bool, lss_str, undef]
theorem svs_get {j : Nat} (h : j < ks.length) : (svs ks)[j]? = some (.string ks[j]) := by simp [h]
theorem BinS_runs (hs : Sl H o p s (svs ks) b) (ha : AscS ks) (hl : ks.length ≤ 65536) (k : ByteArray) (hn : 65536 < n) :
    run G (n + 3) 38 [s, .string k] H = some (.tuple #[cv (splc ks k), .bool (hasS ks k)], H) := by
  rw [F38_eq]
  have hsl := hs.len
  simp only [List.length_map] at hsl
  obtain ⟨r, hit, hne, e1, e2⟩ := iter_go (step := F38_b0 (run G (n + 2)) (n + 2))
    (Q := fun m vs H' => H' = H ∧ ∃ (i j : Nat) (d1 d2 d3 : Value), i ≤ j ∧ j ≤ ks.length ∧ m = j - i ∧ vs = [s, .string k, cv 0, .bool false, cv ks.length, cv i, cv j, d1, d2, d3] ∧
      (∀ x (h : x < ks.length), x < i → slt ks[x] k = true) ∧ (∀ x (h : x < ks.length), j ≤ x → slt ks[x] k = false))
    (R := fun r => r.1 = .exit 0 ∧ r.2.2 = H ∧ ∃ (d0 d1 d2 d3 : Value), r.2.1 = [s, .string k, cv 0, .bool false, cv ks.length, cv (splc ks k), d0, d1, d2, d3])
    (by
      rintro m vs H' ⟨rfl, i, j, d1, d2, d3, hij, hj, rfl, rfl, hlo, hhi⟩
      by_cases hlt : i < j
      · have h1 : ((i : Int) < j) := by omega
        have hmid := mid (i := i) (j := j) (by omega)
        obtain ⟨h, he⟩ : ∃ h, h = (i + j) / 2 := ⟨_, rfl⟩
        rw [← he] at hmid
        have hh : h < ks.length := by omega
        obtain ⟨q, _, hix, hld⟩ := hs.idx (svs_get hh)
        cases hc : slt ks[h] k with
        | true =>
          have hw : IntKind.i64.wrap ((h : Int) + 1) = ((h + 1 : Nat) : Int) := by rw [w64 (by omega)]; omega
          refine .inl ⟨_, _, j - (h + 1), by omega, ?_, rfl, h + 1, j, .bool true, cv h, .bool true, by omega, hj, rfl, rfl, fun x hx hxi => ?_, hhi⟩
          · simp -implicitDefEqProofs [-Int.natCast_add, F38_b0_v, F38_b0v, lss_int, h1, add_int, conv_u, shr1, conv_i, hmid, hix, hld H' rfl, lessS_runs, hc, hw, fin]
          · rcases Nat.lt_or_ge x h with g | g
            · exact slt_trans (List.pairwise_iff_getElem.1 ha x h hx hh g) hc
            · have : x = h := by omega
              subst this; exact hc
        | false =>
          refine .inl ⟨_, _, h - i, by omega, ?_, rfl, i, h, .bool true, cv h, .bool false, by omega, by omega, rfl, rfl, hlo, fun x hx hxi => ?_⟩
          · simp -implicitDefEqProofs [-Int.natCast_add, F38_b0_v, F38_b0v, lss_int, h1, add_int, conv_u, shr1, conv_i, hmid, hix, hld H' rfl, lessS_runs, hc, fin]
          · rcases Nat.lt_or_ge h x with g | g
            · have h5 := List.pairwise_iff_getElem.1 ha h x hh hx g
              cases h6 : slt ks[x] k with
              | false => rfl
              | true => rw [slt_trans h5 h6] at hc; cases hc
            · have : x = h := by omega
              subst this; exact hc
      · have h1 : ¬ ((i : Int) < j) := by omega
        have hij' : i = j := by omega
        subst hij'
        have hp : splc ks k = i := plc_is slt hj (fun x hx hxi => hlo x hx hxi) (fun hx => hhi i hx (Nat.le_refl _))
        refine .inr ⟨(.exit 0, [s, .string k, cv 0, .bool false, cv ks.length, cv i, cv i, .bool false, d2, d3], H'), ?_, by simp, rfl, rfl, cv i, .bool false, d2, d3, by rw [hp]⟩
        simp -implicitDefEqProofs [F38_b0_v, F38_b0v, lss_int, fin])
    (ks.length - 0) [s, .string k, cv 0, .bool false, cv ks.length, cv (0 : Nat), cv ks.length, undef, undef, undef] H ⟨rfl, 0, ks.length, _, _, _, Nat.zero_le _, Nat.le_refl _, rfl, rfl, fun x _ h => by omega, fun x h h2 => by omega⟩ (n + 2) (by omega)
  obtain ⟨e, vs, H'⟩ := r
  simp only at e1 e2
  obtain ⟨rfl, d0, d1, d2, d3, rfl⟩ := e2
  subst e1
  have hit' := hit
  simp only [Int.natCast_zero] at hit'
  by_cases hp : splc ks k < ks.length
  · have h1 : ((splc ks k : Nat) : Int) < ks.length := by omega
    obtain ⟨q, _, hix, hld⟩ := hs.idx (svs_get hp)
    have hk : hasS ks k = decide (ks[splc ks k] = k) := by
      unfold hasS; rw [List.getElem?_eq_getElem hp]; simp
    by_cases hc : ks[splc ks k] = k
    · simp -implicitDefEqProofs [F38, hsl, hit', F38_j1_v, F38_j1v, lss_int, h1, hix, hld H' rfl, eql_str, hc, pick_bool, hk]
    · simp -implicitDefEqProofs [F38, hsl, hit', F38_j1_v, F38_j1v, lss_int, h1, hix, hld H' rfl, eql_str, hc, pick_bool, hk, snanS_runs]
  · have h1 : ¬ ((splc ks k : Nat) : Int) < ks.length := by omega
    have hk : hasS ks k = false := by
      unfold hasS; rw [List.getElem?_eq_none (by omega)]; simp
    simp -implicitDefEqProofs [F38, hsl, hit', F38_j1_v, F38_j1v, lss_int, h1, pick_bool, hk]
end
/-- A map from texts to truths. -/
structure TexR (H : Heap) (o : Owner) (p : Nat) (ks : List ByteArray) (vs : List Bool) : Prop where
  is : ∃ sk sv bk bv ty, H.get p = some ⟨[sk, sv], ty, 1, false⟩ ∧ Sl H o p sk (svs ks) bk ∧ Sl H o p sv (bvs vs) bv ∧ bk ≠ some p ∧ bv ≠ some p ∧ (∀ q, bk = some q → bv ≠ some q)
  own : o p = (p : Int)
  asc : AscS ks
  fits : ks.length ≤ 65536
  same : vs.length = ks.length
section
variable {G : Oracle} {H : Heap} {o : Owner} {p : Nat} {ks : List ByteArray} {vs : List Bool} {n : Nat}
theorem TexR.lt (h : TexR H o p ks vs) : p < H.length := by obtain ⟨⟨_, _, _, _, _, h, _⟩, _⟩ := h; exact get_lt h
theorem TexR.fr {H' : Heap} {o' : Owner} {ps : List Int} (h : TexR H o p ks vs) (f : Fr H o H' o' ps) (hp : (p : Int) ∉ ps) : TexR H' o' p ks vs := by
  have hl := h.lt
  obtain ⟨⟨sk, sv, bk, bv, ty, h1, h2, h3, h4⟩, h5, h6, h7, h8⟩ := h
  exact ⟨⟨sk, sv, bk, bv, ty, by rw [f.same p hl (by rw [h5]; exact hp)]; exact h1, h2.fr f hp, h3.fr f hp, h4⟩, by rw [f.own p hl]; exact h5, h6, h7, h8⟩
theorem TexR.v (h : TexR H o p ks vs) : MapV H o p (svs ks) (bvs vs) := by
  obtain ⟨⟨sk, sv, bk, bv, ty, h1, h2, h3, _⟩, h4, _⟩ := h
  exact ⟨sk, sv, bk, bv, ty, h1, h2, h3, h4⟩
theorem TexR.fresh (H : Heap) (o : Owner) (t : TypeId) : TexR (H.new ⟨[.slice none 0 0, .slice none 0 0], t, 1, false⟩) (o.up H.length H.length) H.length [] [] :=
  ⟨⟨_, _, none, none, t, get_new, ⟨rfl, rfl⟩, ⟨rfl, rfl⟩, by simp, by simp, by simp⟩, up_self, .nil, by simp, rfl⟩
theorem bvs_get {j : Nat} (h : j < vs.length) : (bvs vs)[j]? = some (.bool (vs[j])) := by simp [h]
theorem atS_runs (h : TexR H o p ks vs) (k : ByteArray) (hn : 65536 < n) : ∃ b, run G (n + 4) 43 [pv p, .string k] H = some (.tuple #[cv (splc ks k), .bool b, .bool (hasS ks k)], H) := by
  obtain ⟨⟨sk, sv, bk, bv, ty, hp, hk, hv, _⟩, _, ha, hf, hs⟩ := h
  rw [F43_eq]
  have hb := BinS_runs (G := G) hk ha hf k hn
  cases hc : hasS ks k with
  | false =>
    rw [hc] at hb
    refine ⟨false, ?_⟩
    simp -implicitDefEqProofs [F43, nck_pv, fad_pv, ld1_pv _ _ _ hp, hb, ext_i, not_bool, hc]
  | true =>
    rw [hc] at hb
    have h1 := hasS_lt hc
    obtain ⟨q, _, hix, hld⟩ := hv.idx (bvs_get (vs := vs) (j := splc ks k) (by omega))
    refine ⟨vs[splc ks k]'(by omega), ?_⟩
    · simp -implicitDefEqProofs [F43, nck_pv, fad_pv, ld1_pv _ _ _ hp, hb, ext_i, not_bool, hc, hix, hld H rfl]
theorem GetS_runs (h : TexR H o p ks vs) (k : ByteArray) (hn : 65536 < n) : ∃ b, run G (n + 5) 18 [pv p, .string k] H = some (.tuple #[.bool b, .bool (hasS ks k)], H) := by
  obtain ⟨b, hb⟩ := atS_runs (G := G) h k hn
  rw [F18_eq]
  exact ⟨b, by simp -implicitDefEqProofs [F18, hb, ext_i]⟩
theorem LenS_runs (h : TexR H o p ks vs) : run G (n + 1) 19 [pv p] H = some (cv ks.length, H) := by
  obtain ⟨⟨sk, sv, bk, bv, ty, hp, hk, hv, _⟩, _, ha, hf⟩ := h
  rw [F19_eq]
  have := hk.len
  simp only [List.length_map] at this
  simp -implicitDefEqProofs [F19, nck_pv, fad_pv, ld1_pv _ _ _ hp, this]
theorem insS_bad : (Fun.ks ++ badOf Try.prog).contains 39 = true := by rw [badIs]; rfl
theorem insB_bad : (Fun.ks ++ badOf Try.prog).contains 40 = true := by rw [badIs]; rfl
theorem insS_run (n : Nat) (args : List Value) (H : Heap) : run KG (n + 1) 39 args H = insG 9 args H := by
  unfold run
  simp only [acall, insS_bad, if_true]
  simp [kinG, insK]
theorem insB_run (n : Nat) (args : List Value) (H : Heap) : run KG (n + 1) 40 args H = insG 4 args H := by
  unfold run
  simp only [acall, insB_bad, if_true]
  simp [kinG, insK]
theorem bsS1 (k : ByteArray) (H : Heap) : abuildSlice Try.prog 34 1 [(0, .string k)] H = some (.slice (some ⟨H.length, 0, none⟩) 1 1, H.new ⟨[.string k], 9, 1, false⟩) := by kernel_rfl
theorem bsBB1 (k : Bool) : bsB Try.prog 36 1 [(0, .bool k)] = some (fun i => .slice (some ⟨i, 0, none⟩) 1 1, ⟨[.bool k], 4, 1, false⟩) := by kernel_rfl
theorem PutS_runs (h : TexR H o p ks vs) (k : ByteArray) (v : Bool) (hl : ks.length < 65536) (hn : 65536 < n) :
    ∃ w H' o', run KG (n + 4) 16 [pv p, .string k, .bool v] H = some (w, H') ∧ (∃ vs', TexR H' o' p (kput ks k) vs') ∧ Fr H o H' o' [(p : Int)] := by
  obtain ⟨⟨sk, sv, bk, bv, ty, hp, hk, hv, hb1, hb2, hb3⟩, ho, ha, hf, hsame⟩ := h
  have hpl := get_lt hp
  have hb := BinS_runs (G := KG) hk ha hf k hn
  rw [F16_eq]
  cases hc : hasS ks k with
  | true =>
    rw [hc] at hb
    have h1 := hasS_lt hc
    obtain ⟨q, _, hix, hld⟩ := hv.idx (bvs_get (vs := vs) (j := splc ks k) (by omega))
    obtain ⟨q', c, e, hix', hst, hv2⟩ := hv.put (j := splc ks k) (by simp; omega) (.bool v) rfl rfl rfl
    obtain rfl : q = q' := by
      have := (hix H).symm.trans (hix' H)
      simpa using this
    have hqp : q ≠ p := by rintro rfl; exact hb2 e
    have hqo : o q = p := (hv.lt' e).2
    refine ⟨.tuple #[.bool (vs[splc ks k]'(by omega)), .bool true], H.put q c, o, ?_, ⟨vs.set (splc ks k) v, ⟨sk, sv, bk, bv, ty, by rw [get_put_ne hqp.symm]; exact hp, ?_, ?_, hb1, hb2, hb3⟩, ho, asc_kput ha, by rw [len_kput, hc]; exact hf, by rw [len_kput, hc]; simpa using hsame⟩, (Fr.refl _ _ _).put fun _ => by simp [hqo]⟩
    · simp -implicitDefEqProofs [-List.getD_eq_getElem?_getD, F16, nck_pv, fad_pv, ld1_pv _ _ _ hp, hb, ext_i, hix, hld H rfl, hst, hc]
    · rw [show kput ks k = ks by unfold kput; rw [hc]; rfl]
      exact hk.mv fun q' e' => ⟨slot_put (by rintro rfl; exact hb3 _ e' e), rfl⟩
    · simpa using hv2
  | false =>
    rw [hc] at hb
    have hle : splc ks k ≤ ks.length := plc_le slt ks k
    obtain ⟨H1, e1⟩ : ∃ x, x = H.holes 1 := ⟨_, rfl⟩
    obtain ⟨H2, e2⟩ : ∃ x, x = H1.new ⟨[Value.string k], 9, 1, false⟩ := ⟨_, rfl⟩
    have l1 : H1.length = H.length + 1 := by rw [e1, holes_len]
    have l2 : H2.length = H.length + 2 := by rw [e2, new_len, l1]
    have lk : ∀ q, bk = some q → q < H.length := fun q e => (hk.lt' e).1
    have lv : ∀ q, bv = some q → q < H.length := fun q e => (hv.lt' e).1
    have s1 : ∀ q, q < H.length → H1[q]? = H[q]? := fun q hq => by rw [e1, slot_holes hq]
    have s2 : ∀ q, q < H.length → H2[q]? = H[q]? := fun q hq => by rw [e2, slot_new (by omega), s1 q hq]
    have hk2 : Sl H2 o p sk (svs ks) bk := hk.mv fun q e => ⟨s2 q (lk q e), rfl⟩
    have hj2 : H2.get (H.length + 1) = some ⟨[Value.string k], 9, 1, false⟩ := by
      have := get_new (H := H1) (c := ⟨[Value.string k], 9, 1, false⟩)
      rw [l1, ← e2] at this; exact this
    have i3 := hk2.ins (tE := 9) hj2 (fun e => by have := lk _ e; omega) (i := splc ks k) (by simp; omega) (by simp; omega)
    obtain ⟨H3, e3⟩ : ∃ x, x = (killB bk H2).new ⟨(svs ks).take (splc ks k) ++ Value.string k :: (svs ks).drop (splc ks k), 9, 1, false⟩ := ⟨_, rfl⟩
    rw [← e3] at i3
    have l3 : H3.length = H.length + 3 := by rw [e3, new_len, killB_len, l2]
    have s3 : ∀ q, q < H.length → bk ≠ some q → H3[q]? = H[q]? := fun q hq hn => by rw [e3, slot_new (by rw [killB_len]; omega), slot_killB hn, s2 q hq]
    have h3 : H3[H.length]? = some .hole := by
      rw [e3, slot_new (by rw [killB_len]; omega), slot_killB (fun e => by have := lk _ e; omega), e2, slot_new (by omega), e1]; exact hole_self
    have g3 : H3.get (H.length + 2) = some ⟨(svs ks).take (splc ks k) ++ Value.string k :: (svs ks).drop (splc ks k), 9, 1, false⟩ := by
      have := get_new (H := killB bk H2) (c := ⟨(svs ks).take (splc ks k) ++ Value.string k :: (svs ks).drop (splc ks k), 9, 1, false⟩)
      rw [killB_len, l2, ← e3] at this; exact this
    obtain ⟨H4, e4⟩ : ∃ x : Heap, x = H3.set H.length (.blk ⟨[Value.bool v], 4, 1, false⟩) := ⟨_, rfl⟩
    have lay : layV (H.length + 0) (bsB Try.prog 36 1 [(0, Value.bool v)]) H3 = some (.slice (some ⟨H.length, 0, none⟩) 1 1, H4) := by
      rw [bsBB1, e4]; exact layV_eq h3
    have l4 : H4.length = H.length + 3 := by rw [e4, List.length_set, l3]
    have s4 : ∀ q, q ≠ H.length → H4[q]? = H3[q]? := fun q hq => by rw [e4, slot_set hq]
    have hv4 : Sl H4 o p sv (bvs vs) bv := hv.mv fun q e => by
      have := lv q e
      exact ⟨by rw [s4 q (by omega), s3 q this (fun e' => hb3 q e' e)], rfl⟩
    have hj4 : H4.get H.length = some ⟨[Value.bool v], 4, 1, false⟩ := by rw [e4]; exact get_set_self (by omega)
    have i5 := hv4.ins (tE := 4) hj4 (fun e => by have := lv _ e; omega) (i := splc ks k) (by simp; omega) (by simp; omega)
    obtain ⟨H5, e5⟩ : ∃ x, x = (killB bv H4).new ⟨(bvs vs).take (splc ks k) ++ Value.bool v :: (bvs vs).drop (splc ks k), 4, 1, false⟩ := ⟨_, rfl⟩
    rw [← e5] at i5
    have l5 : H5.length = H.length + 4 := by rw [e5, new_len, killB_len, l4]
    have s5 : ∀ q, q < H.length + 3 → bv ≠ some q → H5[q]? = H4[q]? := fun q hq hn => by rw [e5, slot_new (by rw [killB_len]; omega), slot_killB hn]
    have g5 : H5.get (H.length + 3) = some ⟨(bvs vs).take (splc ks k) ++ Value.bool v :: (bvs vs).drop (splc ks k), 4, 1, false⟩ := by
      have := get_new (H := killB bv H4) (c := ⟨(bvs vs).take (splc ks k) ++ Value.bool v :: (bvs vs).drop (splc ks k), 4, 1, false⟩)
      rw [killB_len, l4, ← e5] at this; exact this
    have p3 : H3[p]? = H[p]? := s3 p hpl hb1
    have p4 : H4[p]? = H[p]? := by rw [s4 p (by omega), p3]
    have p5 : H5.get p = some ⟨[sk, sv], ty, 1, false⟩ := by rw [get_slot (s5 p (by omega) hb2), get_slot p4]; exact hp
    have P : ∀ Hx : Heap, Hx[p]? = H[p]? → ∀ o, ld1 (.pointer (some ⟨p, o, none⟩)) Hx = [sk, sv][o]? := fun Hx e o => ld1_pv p o Hx (by rw [get_slot e]; exact hp)
    rw [l2] at i3
    rw [l4] at i5
    have b1 := bsS1 k H1
    rw [← e2, l1] at b1
    have t6 := st_s p 0 (some ⟨H.length + 2, 0, none⟩) ((svs ks).length + 1) ((svs ks).length + 1) H5 p5 rfl (by simp)
    have t7 := st_s p 1 (some ⟨H.length + 3, 0, none⟩) ((bvs vs).length + 1) ((bvs vs).length + 1) (H5.put p ⟨[.slice (some ⟨H.length + 2, 0, none⟩) ((svs ks).length + 1) ((svs ks).length + 1), sv], ty, 1, false⟩) (get_put p5) rfl (by simp)
    simp only [List.set_cons_zero, List.set_cons_succ] at t6 t7
    obtain ⟨H7, e7⟩ : ∃ x, x = (H5.put p ⟨[.slice (some ⟨H.length + 2, 0, none⟩) ((svs ks).length + 1) ((svs ks).length + 1), sv], ty, 1, false⟩).put p ⟨[.slice (some ⟨H.length + 2, 0, none⟩) ((svs ks).length + 1) ((svs ks).length + 1), .slice (some ⟨H.length + 3, 0, none⟩) ((bvs vs).length + 1) ((bvs vs).length + 1)], ty, 1, false⟩ := ⟨_, rfl⟩
    rw [← e7] at t7
    have e7' : H7 = H5.put p ⟨[.slice (some ⟨H.length + 2, 0, none⟩) ((svs ks).length + 1) ((svs ks).length + 1), .slice (some ⟨H.length + 3, 0, none⟩) ((bvs vs).length + 1) ((bvs vs).length + 1)], ty, 1, false⟩ := by rw [e7]; exact put_put
    have hkp : kput ks k = ks.take (splc ks k) ++ k :: ks.drop (splc ks k) := by unfold kput; rw [hc]; rfl
    have kk : svs (kput ks k) = (svs ks).take (splc ks k) ++ Value.string k :: (svs ks).drop (splc ks k) := by rw [hkp]; simp [List.map_take, List.map_drop]
    have vv : bvs (vs.take (splc ks k) ++ v :: vs.drop (splc ks k)) = (bvs vs).take (splc ks k) ++ Value.bool v :: (bvs vs).drop (splc ks k) := by simp [List.map_take, List.map_drop]
    have ck : (svs (kput ks k)).length = (svs ks).length + 1 := by simp [len_kput, hc]
    have cv' : (bvs (vs.take (splc ks k) ++ v :: vs.drop (splc ks k))).length = (bvs vs).length + 1 := by simp; omega
    refine ⟨.tuple #[.bool false, .bool false], H7, (o.up (H.length + 2) p).up (H.length + 3) p, ?_, ⟨vs.take (splc ks k) ++ v :: vs.drop (splc ks k), ⟨_, _, some (H.length + 2), some (H.length + 3), ty, by rw [e7']; exact get_put p5, ?_, ?_, by simp; omega, by simp; omega, by simp⟩, by rw [up_ne (by omega), up_ne (by omega)]; exact ho, asc_kput ha, by rw [len_kput, hc]; simp; omega, by rw [len_kput, hc]; simp; omega⟩, ?_⟩
    · simp only [List.length_map] at i3 i5 t6 t7
      rw [Nat.add_zero] at lay
      simp -implicitDefEqProofs [F16, nck_pv, fad_pv, ld1_pv _ _ _ hp, hb, ext_i, holesK, ← e1, P _ (s1 p hpl), P _ (s2 p hpl), P _ p3, P _ p4, b1, i3, i5, insS_run, insB_run, lay, t6, t7, hk.eqV, hv.eqV, hc]
    · refine ⟨_, [], 9, by rw [ck], ?_, by rw [ck]; rfl, rfl, by rw [up_ne (by omega), up_self]⟩
      rw [kk, e7', get_put_ne (by omega), get_slot (s5 _ (by omega) (fun e => by have := lv _ e; omega)), get_slot (s4 _ (by omega)), List.append_nil]; exact g3
    · refine ⟨_, [], 4, by rw [cv'], ?_, by rw [cv']; rfl, rfl, up_self⟩
      rw [vv, e7', get_put_ne (by omega), List.append_nil]; exact g5
    · refine ⟨fun q hq hn => ?_, fun q hq => by rw [up_ne (by omega), up_ne (by omega)], by rw [e7', put_len, l5]; omega⟩
      have n1 : q ≠ p := by rintro rfl; exact hn (by simp [ho])
      have n2 : bk ≠ some q := fun e => hn (by simp [(hk.lt' e).2])
      have n3 : bv ≠ some q := fun e => hn (by simp [(hv.lt' e).2])
      rw [e7', slot_put n1, s5 q (by omega) n3, s4 q (by omega), s3 q hq n2]
end
namespace S
section
variable {G : Oracle} {n : Nat}
theorem from_run {H1 H0 : Heap} {o1 : Owner} {p y i0 ba bm bf : Nat} {fv : Value} {kl vl : List Value} {mb : Value → Bool} {ps : List Int} {tm tf : TypeId} {J R : Nat → Heap → Prop}
    (hm : MapV H1 o1 p kl vl) (hvl : vl.length = kl.length) (hl : kl.length ≤ 65536) (hn : 65536 < n) (hp : (p : Int) ∉ ps)
    (gm : H1.get bm = some ⟨[pv p], tm, 1, false⟩) (gf : H1.get bf = some ⟨[fv], tf, 1, false⟩) (om : o1 bm ∉ ps) (of : o1 bf ∉ ps) (ga : ld1 (pv ba) H0 = some (cv i0))
    (hmay : ∀ H' o', Fr H1 o1 H' o' ps → ∀ x ∈ kl, dynC Try.prog.funcs.size (run G n) fv [x] H' = some (.bool (mb x), H'))
    (hJ : ∀ i H', J i H' → ∃ o', Fr H1 o1 H' o' ps) (j0 : J i0 H0) (hi0 : i0 ≤ kl.length)
    (round : ∀ i H' k v, kl[i]? = some k → vl[i]? = some v → i0 ≤ i → mb k = true → J i H' →
      (∃ H'', run G n (Try.prog.funcs.size + y) [k, v] H' = some (.bool true, H'') ∧ J (i + 1) H'') ∨ (∃ H'', run G n (Try.prog.funcs.size + y) [k, v] H' = some (.bool false, H'') ∧ R i H'')) :
    ∃ w H', run G (n + 1) 58 [.func (.yield y) #[] #[], pv ba, pv bm, pv bf] H0 = some (w, H') ∧
      ((∃ j, i0 ≤ j ∧ j ≤ kl.length ∧ J j H' ∧ ∀ k, kl[j]? = some k → mb k = false) ∨ ∃ j, i0 ≤ j ∧ j < kl.length ∧ R j H') := by
  rw [F58_eq]
  obtain ⟨r, hit, hne, hr⟩ := iter_go (step := F58_b0 (run G n) n)
    (Q := fun m vs H' => ∃ (i : Nat) (d1 d2 : Value), i0 ≤ i ∧ i ≤ kl.length ∧ m = kl.length - i ∧ vs = [.func (.yield y) #[] #[], pv ba, cv i, pv bm, pv bf, d1, d2] ∧ J i H')
    (R := fun r => (r.1 = .exit 0 ∧ ∃ j, i0 ≤ j ∧ j ≤ kl.length ∧ J j r.2.2 ∧ ∀ k, kl[j]? = some k → mb k = false) ∨ (r.1 = .ret ∧ ∃ j, i0 ≤ j ∧ j < kl.length ∧ R j r.2.2))
    (by
      rintro m vs H' ⟨i, d1, d2, hi, hil, rfl, rfl, hj⟩
      obtain ⟨o', f⟩ := hJ i H' hj
      have gm' : H'.get bm = some ⟨[pv p], tm, 1, false⟩ := by rw [f.same bm (get_lt gm) om]; exact gm
      have gf' : H'.get bf = some ⟨[fv], tf, 1, false⟩ := by rw [f.same bf (get_lt gf) of]; exact gf
      obtain ⟨sk, sv, bk, bv, ty, h1, h2, h3, h4⟩ := hm.fr f hp
      have hsl := h2.len
      by_cases hlt : i < kl.length
      · have hlt' : (i : Int) < kl.length := by omega
        obtain ⟨k, hk⟩ : ∃ k, kl[i]? = some k := ⟨_, List.getElem?_eq_getElem hlt⟩
        obtain ⟨v, hv⟩ : ∃ v, vl[i]? = some v := ⟨_, List.getElem?_eq_getElem (by omega)⟩
        obtain ⟨q, _, hix, hld⟩ := h2.idx hk
        obtain ⟨q', _, hix', hld'⟩ := h3.idx hv
        have hmy := hmay H' o' f k (List.mem_of_getElem? hk)
        cases hmb : mb k with
        | false =>
          rw [hmb] at hmy
          refine .inr ⟨(.exit 0, [.func (.yield y) #[] #[], pv ba, cv i, pv bm, pv bf, .bool false, d2], H'), ?_, by simp, .inl ⟨rfl, i, hi, hil, hj, fun k' e => by rw [hk] at e; cases e; exact hmb⟩⟩
          simp -implicitDefEqProofs [F58_b0_v, F58_b0v, ld1_pv _ _ _ gm', ld1_pv _ _ _ gf', ld1_pv _ _ _ h1, nck_pv, fad_pv, hsl, lss_int, hlt', hix, hld H' rfl, hmy, pick_bool, fin]
        | true =>
          rw [hmb] at hmy
          have hw : IntKind.i64.wrap ((i : Int) + 1) = ((i + 1 : Nat) : Int) := by rw [w64 (by omega)]; omega
          rcases round i H' k v hk hv hi hmb hj with ⟨H'', hr, hj'⟩ | ⟨H'', hr, hR⟩
          · refine .inl ⟨_, H'', kl.length - (i + 1), by omega, ?_, i + 1, .bool true, .bool false, by omega, by omega, rfl, rfl, hj'⟩
            simp -implicitDefEqProofs [-Int.natCast_add, F58_b0_v, F58_b0v, ld1_pv _ _ _ gm', ld1_pv _ _ _ gf', ld1_pv _ _ _ h1, nck_pv, fad_pv, hsl, lss_int, hlt', hix, hld H' rfl, hix', hld' H' rfl, hmy, pick_bool, dyn_y, hr, not_bool, add_int, hw, fin]
          · refine .inr ⟨(.ret, [.func (.yield y) #[] #[], pv ba, cv i, pv bm, pv bf, .bool true, .bool true], H''), ?_, by simp, .inr ⟨rfl, i, hi, hlt, hR⟩⟩
            simp -implicitDefEqProofs [F58_b0_v, F58_b0v, ld1_pv _ _ _ gm', ld1_pv _ _ _ gf', ld1_pv _ _ _ h1, nck_pv, fad_pv, hsl, lss_int, hlt', hix, hld H' rfl, hix', hld' H' rfl, hmy, pick_bool, dyn_y, hr, not_bool, fin]
      · have hlt' : ¬ (i : Int) < kl.length := by omega
        refine .inr ⟨(.exit 0, [.func (.yield y) #[] #[], pv ba, cv i, pv bm, pv bf, .bool false, d2], H'), ?_, by simp, .inl ⟨rfl, i, hi, hil, hj, fun k' e => by rw [List.getElem?_eq_none (by omega)] at e; cases e⟩⟩
        simp -implicitDefEqProofs [F58_b0_v, F58_b0v, ld1_pv _ _ _ gm', ld1_pv _ _ _ h1, nck_pv, fad_pv, hsl, lss_int, hlt', pick_bool, fin])
    (kl.length - i0) [.func (.yield y) #[] #[], pv ba, cv i0, pv bm, pv bf, undef, undef] H0 ⟨i0, _, _, Nat.le_refl _, hi0, rfl, rfl, j0⟩ n (by omega)
  obtain ⟨e, vs, H'⟩ := r
  simp only at hr
  rcases hr with ⟨rfl, h⟩ | ⟨rfl, h⟩
  · refine ⟨.tuple #[], H', ?_, .inl h⟩
    simp -implicitDefEqProofs [F58, ga, hit, resK, resL, tupK]
  · refine ⟨.tuple #[], H', ?_, .inr h⟩
    simp -implicitDefEqProofs [F58, ga, hit, resK, resL, tupK]
/-- Behind 'from'. -/
noncomputable def fromH (H : Heap) (p : Nat) (a : Int) (f : Value) : Heap := ((H.new ⟨[pv p], 35, 1, false⟩).new ⟨[cv a], 3, 1, false⟩).new ⟨[f], 78, 1, false⟩
abbrev fromG (H : Heap) : Value := fnv 58 #[pv (H.length + 1), pv H.length, pv (H.length + 2)]
abbrev fromO (H : Heap) (o : Owner) (bo : Int) : Owner := ((o.up H.length bo).up (H.length + 1) bo).up (H.length + 2) bo
theorem fromH_fr (H : Heap) (o : Owner) (p : Nat) (a : Int) (f : Value) (bo : Int) : Fr H o (fromH H p a f) (fromO H o bo) [] := by
  have h1 := (Fr.refl H o []).new ⟨[pv p], 35, 1, false⟩ bo
  have h2 := h1.new ⟨[cv a], 3, 1, false⟩ bo
  have h3 := h2.new ⟨[f], 78, 1, false⟩ bo
  simp only [new_len] at h2 h3
  exact h3
theorem fromH_len (H : Heap) (p : Nat) (a : Int) (f : Value) : (fromH H p a f).length = H.length + 3 := by simp [fromH, new_len]
theorem fromH_m (H : Heap) (p : Nat) (a : Int) (f : Value) : (fromH H p a f).get H.length = some ⟨[pv p], 35, 1, false⟩ := by
  unfold fromH
  rw [get_new_lt (by simp only [new_len]; omega), get_new_lt (by simp only [new_len]; omega)]; exact get_new
theorem fromH_a (H : Heap) (p : Nat) (a : Int) (f : Value) : (fromH H p a f).get (H.length + 1) = some ⟨[cv a], 3, 1, false⟩ := by
  unfold fromH
  rw [get_new_lt (by simp only [new_len]; omega)]
  have := get_new (H := H.new ⟨[pv p], 35, 1, false⟩) (c := ⟨[cv a], 3, 1, false⟩)
  rw [new_len] at this; exact this
theorem fromH_f (H : Heap) (p : Nat) (a : Int) (f : Value) : (fromH H p a f).get (H.length + 2) = some ⟨[f], 78, 1, false⟩ := by
  unfold fromH
  have := get_new (H := (H.new ⟨[pv p], 35, 1, false⟩).new ⟨[cv a], 3, 1, false⟩) (c := ⟨[f], 78, 1, false⟩)
  simp only [new_len] at this; exact this
theorem from_runs (p : Nat) (a : Int) (f : FuncId) (c : Array Value) (H : Heap) : run G (n + 1) 41 [pv p, cv a, fnv f c] H = some (fromG H, fromH H p a (fnv f c)) := by
  rw [F41_eq]
  have b1 := box1 35 (pv p) H rfl rfl
  have b2 := box1 3 (cv a) (H.new ⟨[pv p], 35, 1, false⟩) rfl rfl
  have b3 := box1 78 (fnv f c) ((H.new ⟨[pv p], 35, 1, false⟩).new ⟨[cv a], 3, 1, false⟩) rfl rfl
  simp only [new_len] at b2 b3
  simp -implicitDefEqProofs [F41, b1, b2, b3, fromH]
theorem All_runs (p : Nat) (H : Heap) : run G (n + 2) 17 [pv p] H = some (fromG H, fromH H p 0 (fnv 42 #[])) := by
  rw [F17_eq]
  simp -implicitDefEqProofs [F17, from_runs]
/-- The loop over it. -/
theorem from_rng {L : ALoop} {H1 : Heap} {o1 : Owner} {p i0 ba bm bf : Nat} {fv : Value} {kl vl : List Value} {mb : Value → Bool} {ps : List Int} {ta tm tf : TypeId} {J R : Nat → Heap → Prop}
    (hm : MapV H1 o1 p kl vl) (hvl : vl.length = kl.length) (hl : kl.length ≤ 65536) (hn : 65536 < n) (hp : (p : Int) ∉ ps)
    (gm : H1.get bm = some ⟨[pv p], tm, 1, false⟩) (gf : H1.get bf = some ⟨[fv], tf, 1, false⟩) (ga : H1.get ba = some ⟨[cv i0], ta, 1, false⟩) (om : o1 bm ∉ ps) (of : o1 bf ∉ ps)
    (hmay : ∀ H' o', Fr H1 o1 H' o' ps → ∀ x ∈ kl, dynC Try.prog.funcs.size (run G n) fv [x] H' = some (.bool (mb x), H'))
    (hJ : ∀ i H', J i H' → (∃ o', Fr H1 o1 H' o' ps) ∧ H'.oth H1.length = some (.loop L .ready)) (hR : ∀ i H', R i H' → ∃ L' s, H'.oth H1.length = some (.loop L' s)) (j0 : J i0 (H1.newO (.loop L .ready))) (hi0 : i0 ≤ kl.length)
    (round : ∀ i H' k v, kl[i]? = some k → vl[i]? = some v → i0 ≤ i → mb k = true → J i H' →
      (∃ H'', run G n (Try.prog.funcs.size + H1.length) [k, v] H' = some (.bool true, H'') ∧ J (i + 1) H'') ∨ (∃ H'', run G n (Try.prog.funcs.size + H1.length) [k, v] H' = some (.bool false, H'') ∧ R i H'')) :
    ∃ s H', rngC Try.prog.funcs.size (run G (n + 1)) (fnv 58 #[pv ba, pv bm, pv bf]) L H1 = some (s, H'.kill H1.length) ∧
      ((s = .ready ∧ ∃ j, i0 ≤ j ∧ j ≤ kl.length ∧ J j H' ∧ ∀ k, kl[j]? = some k → mb k = false) ∨ ∃ j, i0 ≤ j ∧ j < kl.length ∧ R j H' ∧ ∃ L', H'.oth H1.length = some (.loop L' s)) := by
  have ga0 : ld1 (pv ba) (H1.newO (.loop L .ready)) = some (cv i0) := ld1_pv ba 0 _ (by rw [get_slot (slot_newO (c := .loop L .ready) (get_lt ga))]; exact ga)
  obtain ⟨w, H', hr, h⟩ := from_run (y := H1.length) hm hvl hl hn hp gm gf om of ga0 hmay (fun i H' h => (hJ i H' h).1) j0 hi0 round
  have hlt : (58 : Nat) < Try.prog.funcs.size := by decide +kernel
  rcases h with ⟨j, h1, h2, h3, h4⟩ | ⟨j, h1, h2, h3⟩
  · exact ⟨.ready, H', rngC_eq hlt hr (hJ j H' h3).2, .inl ⟨rfl, j, h1, h2, h3, h4⟩⟩
  · obtain ⟨L', s, hs⟩ := hR j H' h3
    exact ⟨s, H', rngC_eq hlt hr hs, .inr ⟨j, h1, h2, h3, L', hs⟩⟩
/-- All's condition. -/
theorem all_may (x : Value) (H : Heap) : dynC Try.prog.funcs.size (run G (n + 1)) (fnv 42 #[]) [x] H = some (.bool true, H) := by
  have hlt : (42 : Nat) < Try.prog.funcs.size := by decide +kernel
  rw [dyn_f hlt]
  show run G (n + 1) _ [x] H = _
  rw [F42_eq]
  simp -implicitDefEqProofs [F42]
end
end S
end Go.Proofs.Ytdgolnenpnkjbaa.Fun
