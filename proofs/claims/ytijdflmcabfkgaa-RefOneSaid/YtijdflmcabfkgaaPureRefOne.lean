/- Proved: for every four numbers of 64 bits, two kinds and addresses cut into range make the same word just if both are the same. No condition. -/
import Derived.Test.YtijdflmcabfkgaaPRefOnex1
import Derived.Laws.BitsLemmas
namespace Go.Proofs.Ytijdflmcabfkgaa.Pure
open Go.RowKit Go.Proofs.Ytijdflmcabfkgaa.PRefOne Go.Proofs.YtijdflmcabfkgaaW.PrintWords Go.Proofs.YtijdflmcabfkgaaW.PrintLast

theorem w64 {x : Int} (h : -9223372036854775808 ≤ x ∧ x ≤ 9223372036854775807) : wrap64 x = x := by unfold wrap64; omega
theorem in64 {x : Int} (h : (Lit.int .i64 x).wf = true) : -9223372036854775808 ≤ x ∧ x ≤ 9223372036854775807 := by
  simpa [Lit.wf, IntKind.min, IntKind.max, IntKind.signed, IntKind.bits] using h
theorem wraps63 (n : Int) (_h₀ : 0 ≤ n) (h₁ : n < 2 ^ 63) : IntKind.i64.wrap n = n := by rw [IntKind.wrap_i64]; omega
theorem and7 (x : Int) (h0 : 0 ≤ x) (h1 : x < 2 ^ 63) : Go.bits .and .i64 x 7 = x % 8 :=
  bits_mask .i64 63 (by decide) wraps63 3 (by decide) x h0 h1
theorem or3 (x y : Int) (h0 : 0 ≤ x) (hx : x % 8 = 0) (h1 : x < 2 ^ 63) (hy0 : 0 ≤ y) (hy : y < 8) : Go.bits .or .i64 x y = x + y :=
  bits_join .i64 63 (by decide) wraps63 3 x y h0 hx h1 hy0 hy (by omega)

/-- A word that refers, as a test on numbers. -/
def rightB (w : Int) : Bool := decide (8 < w ∧ 1 ≤ w % 8 ∧ w % 8 ≤ 5 ∧ w / 8 ≤ 65536)
theorem rightB_iff (w : Int) : rightB w = true ↔ (8 < w ∧ 1 ≤ w % 8 ∧ w % 8 ≤ 5 ∧ w / 8 ≤ 65536) := by simp [rightB]
theorem rightB_not (w : Int) : rightB w = false ↔ ¬ (8 < w ∧ 1 ≤ w % 8 ∧ w % 8 ≤ 5 ∧ w / 8 ≤ 65536) := by simp [rightB]
def kindI (w : Int) : Int := if rightB w = true then w % 8 else 0
def atI (w : Int) : Int := if rightB w = true then w / 8 else 0
def mayB (a b : Int) : Bool := decide (1 ≤ a ∧ a ≤ 5 ∧ 1 ≤ b ∧ b ≤ 65536)
def ofI (a b : Int) : Int := if mayB a b = true then 8 * b + a else 0

theorem may_eq (a b : Int) : ref_may.f a b = some (mayB a b) := by
  unfold ref_may.f mayB
  by_cases h1 : a ≥ 1
  · by_cases h2 : a ≤ 5
    · by_cases h3 : b ≥ 1
      · rw [if_pos h1, if_pos h2, if_pos h3]; congr 1; rw [decide_eq_decide]; omega
      · rw [if_pos h1, if_pos h2, if_neg h3]; congr 1; symm; rw [decide_eq_false_iff_not]; omega
    · rw [if_pos h1, if_neg h2]; congr 1; symm; rw [decide_eq_false_iff_not]; omega
  · rw [if_neg h1]; congr 1; symm; rw [decide_eq_false_iff_not]; omega

theorem of_eq (a b : Int) : ref_Of.f a b = some (ofI a b) := by
  unfold ref_Of.f ofI
  rw [may_eq]; simp only [Option.bind_some]
  by_cases h : mayB a b = true
  · rw [if_pos h, if_pos h]
    have h' : 1 ≤ a ∧ a ≤ 5 ∧ 1 ≤ b ∧ b ≤ 65536 := by simpa [mayB] using h
    rw [w64 (x := b * 8) (by omega), or3 _ _ (by omega) (by omega) (by omega) (by omega) (by omega)]
    congr 1; omega
  · rw [if_neg h, if_neg h]

theorem parts_eq (k : Nat) (w : Int) (hw : w ≤ 9223372036854775807) :
    ref_parts.f (k + 1) w = some (if rightB w = true then (w % 8, w / 8, true) else (0, 0, false)) := by
  unfold ref_parts.f
  by_cases h1 : w < 0
  · rw [if_pos h1]; rw [ref_parts.j0, if_pos rfl, if_neg]
    rw [rightB_iff]; omega
  · rw [if_neg h1]
    rw [ref_parts.j0]
    by_cases h2 : w > 524296
    · rw [if_pos (decide_eq_true h2), if_neg]
      rw [rightB_iff]; omega
    · rw [if_neg (by simpa using h2), may_eq, and7 w (by omega) (by omega)]; simp only [Option.bind_some]
      by_cases h3 : mayB (w % 8) (w / 8) = true
      · rw [if_pos h3, if_pos]
        have h' : 1 ≤ w % 8 ∧ w % 8 ≤ 5 ∧ 1 ≤ w / 8 ∧ w / 8 ≤ 65536 := by simpa [mayB] using h3
        rw [rightB_iff]; omega
      · rw [if_neg h3, if_neg]
        have h' : ¬ (1 ≤ w % 8 ∧ w % 8 ≤ 5 ∧ 1 ≤ w / 8 ∧ w / 8 ≤ 65536) := by simpa [mayB] using h3
        rw [rightB_iff]; omega

theorem right_eq (k : Nat) (w : Int) (hw : w ≤ 9223372036854775807) : ref_Right.f (k + 1) w = some (rightB w) := by
  unfold ref_Right.f; rw [parts_eq k w hw]; simp only [Option.bind_some]
  by_cases h : rightB w = true
  · rw [if_pos h, h]
  · rw [if_neg h]; simp [Bool.not_eq_true] at h; rw [h]
theorem kind_eq (k : Nat) (w : Int) (hw : w ≤ 9223372036854775807) : ref_Kind.f (k + 1) w = some (kindI w) := by
  unfold ref_Kind.f kindI; rw [parts_eq k w hw]; simp only [Option.bind_some]
  by_cases h : rightB w = true
  · rw [if_pos h, if_pos h]
  · rw [if_neg h, if_neg h]
theorem at_eq (k : Nat) (w : Int) (hw : w ≤ 9223372036854775807) : ref_At.f (k + 1) w = some (atI w) := by
  unfold ref_At.f atI; rw [parts_eq k w hw]; simp only [Option.bind_some]
  by_cases h : rightB w = true
  · rw [if_pos h, if_pos h]
  · rw [if_neg h, if_neg h]

theorem known_eq (k : Nat) : ordinatelaw1_known.f (k + 1) = some true := by
  unfold ordinatelaw1_known.f
  rw [of_eq, of_eq, of_eq, kind_eq k 26 (by decide), at_eq k 26 (by decide), right_eq k 26 (by decide), right_eq k 8 (by decide), right_eq k 30 (by decide), kind_eq k (-6) (by decide)]
  decide +kernel

theorem cut_eq (n k : Int) (hk0 : 0 < k) (hk : k ≤ 9223372036854775807) : ordinatehand_Cut.f n k = some (n % k) := by
  unfold ordinatehand_Cut.f
  rw [if_neg (by omega)]
  have hm : 0 ≤ n % k ∧ n % k < k := ⟨Int.emod_nonneg _ (by omega), Int.emod_lt_of_pos _ hk0⟩
  have key : Int.tmod n k = n % k ∨ (Int.tmod n k = n % k - k ∧ n % k ≠ 0) := by
    rw [Int.tmod_eq_emod]
    split
    · left; omega
    · right
      rename_i h
      have hd : ¬ k ∣ n := fun hd => h (Or.inr hd)
      refine ⟨by omega, fun h0 => hd (Int.dvd_of_emod_eq_zero h0)⟩
  by_cases h : Int.tmod n k < 0
  · rw [if_pos h]
    rcases key with e | ⟨e, _⟩
    · omega
    · rw [e, w64 (by omega)]; congr 1; omega
  · rw [if_neg h]
    rcases key with e | ⟨e, _⟩
    · rw [e]
    · omega

theorem RefOne : ordinatelaw1_RefOne.Pure := by
  intro a0 a1 a2 a3 h0 h1 h2 h3
  refine ⟨1, ?_⟩
  unfold ordinatelaw1_RefOne.f
  rw [cut_eq a0 5 (by omega) (by omega), cut_eq a2 5 (by omega) (by omega), cut_eq a1 65536 (by omega) (by omega), cut_eq a3 65536 (by omega) (by omega), known_eq]
  simp only [Option.bind_some, if_true]
  rw [w64 (x := 1 + a0 % 5) (by omega), w64 (x := 1 + a1 % 65536) (by omega), w64 (x := 1 + a2 % 5) (by omega), w64 (x := 1 + a3 % 65536) (by omega), of_eq, of_eq]
  simp only [Option.bind_some]
  have p1 : 0 ≤ a0 % 5 ∧ a0 % 5 < 5 := by omega
  have p2 : 0 ≤ a2 % 5 ∧ a2 % 5 < 5 := by omega
  have p3 : 0 ≤ a1 % 65536 ∧ a1 % 65536 < 65536 := by omega
  have p4 : 0 ≤ a3 % 65536 ∧ a3 % 65536 < 65536 := by omega
  generalize a0 % 5 = x at *
  generalize a2 % 5 = y at *
  generalize a1 % 65536 = u at *
  generalize a3 % 65536 = v at *
  have e1 : ofI (1 + x) (1 + u) = 8 * (1 + u) + (1 + x) := by
    unfold ofI; rw [if_pos]; simp only [mayB, decide_eq_true_eq]; omega
  have e2 : ofI (1 + y) (1 + v) = 8 * (1 + v) + (1 + y) := by
    unfold ofI; rw [if_pos]; simp only [mayB, decide_eq_true_eq]; omega
  rw [e1, e2]
  by_cases h : 1 + x = 1 + y
  · rw [if_pos h]
    congr 1
    rw [beq_iff_eq, Bool.eq_iff_iff, beq_iff_eq, beq_iff_eq]; omega
  · rw [if_neg h]
    congr 1
    rw [beq_iff_eq, beq_eq_false_iff_ne]; omega

end Go.Proofs.Ytijdflmcabfkgaa.Pure
