
/- ref1's Range and Map over the abstract machine. -/
import Derived.Test.YtgakioiplkehgaaFun0
import Derived.Test.YtgakioiplkehgaaLRef
namespace Go.Proofs.Ytgakioiplkehgaa.Fun
open Go Go.RowKit Go.Proofs.YtgakioiplkehgaaA.Am
set_option linter.unusedVariables false
set_option linter.unusedSimpArgs false
set_option linter.unnecessarySimpa false
section
variable {G : Oracle} {H : Heap} {o : Owner} {q : Int} {x : Value} {l : PL} {n : Nat}
/-- Those from lo to hi. -/
def rng (lo hi : Int) (l : PL) : PL := l.filter fun z => decide (lo ≤ z.1) && decide (z.1 ≤ hi)
theorem rng_len (lo hi : Int) (l : PL) : (rng lo hi l).length ≤ l.length := List.length_filter_le _ _
theorem rng_at {lo hi : Int} {i : Nat} (hi' : i < l.length) : rng lo hi (l.take (i + 1)) = rng lo hi (l.take i) ++ if lo ≤ (l.getD i (0, 0)).1 ∧ (l.getD i (0, 0)).1 ≤ hi then [((l.getD i (0, 0)).1, (l.getD i (0, 0)).2)] else [] := by
  rw [take_at hi', rng, List.filter_append]
  congr 1
  by_cases h1 : lo ≤ (l.getD i (0, 0)).1 <;> by_cases h2 : (l.getD i (0, 0)).1 ≤ hi <;> simp [h1, h2, -List.getD_eq_getElem?_getD]
theorem RRange_runs (hx : SlR H o q x l) (hl : l.length ≤ 4194304) (lo hi : Int) (hn : 4194304 < n) :
    ∃ x' H', run G (n + 1) 30 [x, cv lo, cv hi] H = some (x', H') ∧ (∀ Q, SlP H' (o.from H.length Q) Q x' (rng lo hi l)) ∧ (∀ j, j < H.length → H'[j]? = H[j]?) ∧ H.length ≤ H'.length := by
  rw [F30_eq]
  have hxl := hx.len
  have h0 : SlR H (oI H) 0 x l := hx.relabel fun i hi _ => oI_lt hi
  obtain ⟨r, hit, hne, r1, o', x', d8, d12, d30, r2, r3, r4⟩ := iter_go (step := F30_b0 (run G n) n)
    (Q := fun m vs H' => ∃ (i : Nat) (o' : Owner) (x' d12 d30 : Value), i ≤ l.length ∧ m = l.length - i ∧ vs = [x, cv lo, cv hi, .slice none 0 0, cv i, d12, d30, x'] ∧ SlP H' o' 1 x' (rng lo hi (l.take i)) ∧ Fr H (oI H) H' o' [1])
    (R := fun r => r.1 = .exit 0 ∧ ∃ (o' : Owner) (x' d8 d12 d30 : Value), r.2.1 = [x, cv lo, cv hi, .slice none 0 0, d8, d12, d30, x'] ∧ SlP r.2.2 o' 1 x' (rng lo hi l) ∧ Fr H (oI H) r.2.2 o' [1])
    (by
      rintro m vs H' ⟨i, o', x', d12, d30, hi1, rfl, rfl, hs, hf⟩
      by_cases hlt : i < l.length
      · have h1 : (i : Int) < l.length := by omega
        obtain ⟨bi, bo, y0, hix, hy0, hbo, hbd⟩ := (h0.fr hf (by simp)).idx hlt
        obtain ⟨d1, d2, d3⟩ := hbd _ hy0
        have hw : IntKind.i64.wrap ((i : Int) + 1) = ((i + 1 : Nat) : Int) := by rw [w64 (by omega)]; omega
        have hra := rng_at (lo := lo) (hi := hi) hlt
        by_cases ha : (l.getD i (0, 0)).1 ≥ lo
        · by_cases hb : (l.getD i (0, 0)).1 ≤ hi
          · obtain ⟨H2, e2⟩ : ∃ z, z = H'.new ⟨[cv (l.getD i (0, 0)).1, cv (l.getD i (0, 0)).2], 26, 2, false⟩ := ⟨_, rfl⟩
            have f2 : Fr H' o' H2 (o'.up H'.length 2) [1] := by rw [e2]; exact (Fr.refl _ _ _).new _ _
            have hbs := bsP (l.getD i (0, 0)).1 (l.getD i (0, 0)).2 H'
            rw [← e2] at hbs
            have gs : H2.get H'.length = some ⟨[cv (l.getD i (0, 0)).1, cv (l.getD i (0, 0)).2], 26, 2, false⟩ := by rw [e2]; exact get_new
            have s2 : SlP H2 (o'.up H'.length 2) 1 x' (rng lo hi (l.take i)) := hs.mv fun j a c e => by
              have hj : j < H'.length := by
                rcases hs with ⟨rfl, _⟩ | ⟨i', cap, rest, ty, rfl, h2, _⟩
                · cases e
                · cases e; exact get_lt h2
              exact ⟨by rw [e2, slot_new hj], up_ne (by omega)⟩
            have hrl := rng_len lo hi (l.take i)
            rw [List.length_take] at hrl
            obtain ⟨x3, H3, o3, ha3, s3, f3, _⟩ := s2.app 26 (Src.one gs) (by simp; omega)
            rw [if_pos ⟨by omega, hb⟩] at hra
            rw [← hra] at s3
            refine .inl ⟨_, H3, l.length - (i + 1), by omega, ?_, i + 1, o3, x3, .bool true, .bool true, by omega, rfl, rfl, s3, (hf.tr f2).tr f3⟩
            simp -implicitDefEqProofs [-List.getD_eq_getElem?_getD, -Int.natCast_add, -ge_iff_le, F30_b0_v, F30_b0v, hxl, lss_int, h1, hix, fad_pv, d1, geq_int, ha, leq_int, hb, pick_bool, d3, hbs, ha3, F30_j1_v, F30_j1v, add_int, hw, fin]
          · rw [if_neg (by omega), List.append_nil] at hra
            rw [← hra] at hs
            refine .inl ⟨_, H', l.length - (i + 1), by omega, ?_, i + 1, o', x', .bool true, .bool false, by omega, rfl, rfl, hs, hf⟩
            simp -implicitDefEqProofs [-List.getD_eq_getElem?_getD, -Int.natCast_add, -ge_iff_le, F30_b0_v, F30_b0v, hxl, lss_int, h1, hix, fad_pv, d1, geq_int, ha, leq_int, hb, pick_bool, F30_j1_v, F30_j1v, add_int, hw, fin]
        · rw [if_neg (by omega), List.append_nil] at hra
          rw [← hra] at hs
          refine .inl ⟨_, H', l.length - (i + 1), by omega, ?_, i + 1, o', x', .bool true, .bool false, by omega, rfl, rfl, hs, hf⟩
          simp -implicitDefEqProofs [-List.getD_eq_getElem?_getD, -Int.natCast_add, -ge_iff_le, F30_b0_v, F30_b0v, hxl, lss_int, h1, hix, fad_pv, d1, geq_int, ha, pick_bool, F30_j1_v, F30_j1v, add_int, hw, fin]
      · have h1 : ¬ (i : Int) < l.length := by omega
        have hil : i = l.length := by omega
        rw [hil, List.take_length] at hs
        refine .inr ⟨(.exit 0, [x, cv lo, cv hi, .slice none 0 0, cv i, .bool false, d30, x'], H'), ?_, by simp, rfl, o', x', _, _, _, rfl, hs, hf⟩
        simp -implicitDefEqProofs [F30_b0_v, F30_b0v, hxl, lss_int, h1, fin])
    (l.length - 0) [x, cv lo, cv hi, .slice none 0 0, cv (0 : Nat), undef, undef, .slice none 0 0] H ⟨0, _, _, _, _, Nat.zero_le _, rfl, rfl, .inl ⟨rfl, rfl⟩, .refl _ _ _⟩ n (by omega)
  obtain ⟨e, vs, H'⟩ := r
  simp only at r1 r2 r3 r4
  subst r1 r2
  simp only [Int.natCast_zero] at hit
  refine ⟨x', H', ?_, fun Q => (newP r3 r4 Q).1, (newP (o := o) r3 r4 0).2.1, r4.size⟩
  simp -implicitDefEqProofs [F30, hit, F30_j2_v, F30_j2v]
theorem RMap_runs (hx : SlR H o q x l) (hl : l.length ≤ 4194304) (ha : Asc (keysOf l)) (hn : 4194304 < n) : run G (n + 1) 25 [x] H = some (.bool true, H) := by
  rw [F25_eq]
  have hxl := hx.len
  obtain ⟨r, hit, hne, r1, r2, d3, d7, d21, r3⟩ := iter_go (step := F25_b0 (run G n) n)
    (Q := fun m vs H' => H' = H ∧ ∃ (i : Nat) (d7 d21 : Value), 1 ≤ i ∧ m = l.length - i ∧ vs = [x, .bool false, cv i, d7, d21])
    (R := fun r => r.1 = .exit 0 ∧ r.2.2 = H ∧ ∃ d3 d7 d21, r.2.1 = [x, .bool false, d3, d7, d21])
    (by
      rintro m vs H' ⟨rfl, i, d7, d21, hi, rfl, rfl⟩
      by_cases hlt : i < l.length
      · have h1 : (i : Int) < l.length := by omega
        obtain ⟨j, rfl⟩ : ∃ j, i = j + 1 := ⟨i - 1, by omega⟩
        obtain ⟨bi, bo, y0, hix, hy0, hbo, hbd⟩ := hx.idx hlt
        obtain ⟨d1, d2, d3⟩ := hbd _ hy0
        obtain ⟨bj, bjo, z0, hjx, hz0, hco, hcd⟩ := hx.idx (show j < l.length by omega)
        obtain ⟨c1, c2, c3⟩ := hcd _ hz0
        have hw : IntKind.i64.wrap (((j + 1 : Nat) : Int) + 1) = ((j + 1 + 1 : Nat) : Int) := by rw [w64 (by omega)]; omega
        have hw2 : IntKind.i64.wrap (((j + 1 : Nat) : Int) - 1) = (j : Int) := by rw [w64 (by omega)]; omega
        have hk : ¬ (l.getD (j + 1) (0, 0)).1 ≤ (l.getD j (0, 0)).1 := by
          have := List.pairwise_iff_getElem.1 ha j (j + 1) (by simp; omega) (by simpa using hlt) (by omega)
          rw [List.getD_eq_getElem?_getD, List.getD_eq_getElem?_getD, List.getElem?_eq_getElem hlt, List.getElem?_eq_getElem (show j < l.length by omega)]
          simp only [List.getElem_map, Option.getD_some] at this ⊢
          omega
        refine .inl ⟨_, _, l.length - (j + 1 + 1), by omega, ?_, rfl, j + 1 + 1, .bool true, .bool false, by omega, rfl, rfl⟩
        simp -implicitDefEqProofs [-List.getD_eq_getElem?_getD, -Int.natCast_add, F25_b0_v, F25_b0v, hxl, lss_int, h1, hix, hjx, fad_pv, d1, c1, sub_int, hw2, leq_int, hk, add_int, hw, fin]
      · have h1 : ¬ (i : Int) < l.length := by omega
        refine .inr ⟨(.exit 0, [x, .bool false, cv i, .bool false, d21], H'), ?_, by simp, rfl, rfl, _, _, _, rfl⟩
        simp -implicitDefEqProofs [F25_b0_v, F25_b0v, hxl, lss_int, h1, fin])
    (l.length - 1) [x, .bool false, cv (1 : Nat), undef, undef] H ⟨rfl, 1, _, _, Nat.le_refl _, rfl, rfl⟩ n (by omega)
  obtain ⟨e, vs, H'⟩ := r
  simp only at r1 r2 r3
  subst r1 r2 r3
  have e1 : ((1 : Nat) : Int) = 1 := rfl
  rw [e1] at hit
  simp -implicitDefEqProofs [F25, hit, F25_j1_v, F25_j1v]
end
end Go.Proofs.Ytgakioiplkehgaa.Fun
