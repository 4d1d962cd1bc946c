/- Proved: chapter 1's examples, the ends of addresses and the kinds' numbers hold of the program. No condition. -/
import Derived.Test.YtijdflmcabfkgaaPRefKnownx1
import Derived.Laws.BitsLemmas
namespace Go.Proofs.Ytijdflmcabfkgaa.Pure
open Go.RowKit Go.Proofs.Ytijdflmcabfkgaa.PRefKnown Go.Proofs.YtijdflmcabfkgaaW.PrintWords Go.Proofs.YtijdflmcabfkgaaW.PrintLast

theorem w64 {x : Int} (h : -9223372036854775808 ≤ x ∧ x ≤ 9223372036854775807) : wrap64 x = x := by unfold wrap64; omega
theorem in64 {x : Int} (h : (Lit.int .i64 x).wf = true) : -9223372036854775808 ≤ x ∧ x ≤ 9223372036854775807 := by
  simpa [Lit.wf, IntKind.min, IntKind.max, IntKind.signed, IntKind.bits] using h
theorem wraps63 (n : Int) (_h₀ : 0 ≤ n) (h₁ : n < 2 ^ 63) : IntKind.i64.wrap n = n := by rw [IntKind.wrap_i64]; omega
theorem and7 (x : Int) (h0 : 0 ≤ x) (h1 : x < 2 ^ 63) : Go.bits .and .i64 x 7 = x % 8 :=
  bits_mask .i64 63 (by decide) wraps63 3 (by decide) x h0 h1
theorem or3 (x y : Int) (h0 : 0 ≤ x) (hx : x % 8 = 0) (h1 : x < 2 ^ 63) (hy0 : 0 ≤ y) (hy : y < 8) : Go.bits .or .i64 x y = x + y :=
  bits_join .i64 63 (by decide) wraps63 3 x y h0 hx h1 hy0 hy (by omega)

/-- A word that refers, as a test on numbers. -/
def rightB (w : Int) : Bool := decide (8 < w ∧ 1 ≤ w % 8 ∧ w % 8 ≤ 5 ∧ w / 8 ≤ 65536)
theorem rightB_iff (w : Int) : rightB w = true ↔ (8 < w ∧ 1 ≤ w % 8 ∧ w % 8 ≤ 5 ∧ w / 8 ≤ 65536) := by simp [rightB]
theorem rightB_not (w : Int) : rightB w = false ↔ ¬ (8 < w ∧ 1 ≤ w % 8 ∧ w % 8 ≤ 5 ∧ w / 8 ≤ 65536) := by simp [rightB]
def kindI (w : Int) : Int := if rightB w = true then w % 8 else 0
def atI (w : Int) : Int := if rightB w = true then w / 8 else 0
def mayB (a b : Int) : Bool := decide (1 ≤ a ∧ a ≤ 5 ∧ 1 ≤ b ∧ b ≤ 65536)
def ofI (a b : Int) : Int := if mayB a b = true then 8 * b + a else 0

theorem may_eq (a b : Int) : ref_may.f a b = some (mayB a b) := by
  unfold ref_may.f mayB
  by_cases h1 : a ≥ 1
  · by_cases h2 : a ≤ 5
    · by_cases h3 : b ≥ 1
      · rw [if_pos h1, if_pos h2, if_pos h3]; congr 1; rw [decide_eq_decide]; omega
      · rw [if_pos h1, if_pos h2, if_neg h3]; congr 1; symm; rw [decide_eq_false_iff_not]; omega
    · rw [if_pos h1, if_neg h2]; congr 1; symm; rw [decide_eq_false_iff_not]; omega
  · rw [if_neg h1]; congr 1; symm; rw [decide_eq_false_iff_not]; omega

theorem of_eq (a b : Int) : ref_Of.f a b = some (ofI a b) := by
  unfold ref_Of.f ofI
  rw [may_eq]; simp only [Option.bind_some]
  by_cases h : mayB a b = true
  · rw [if_pos h, if_pos h]
    have h' : 1 ≤ a ∧ a ≤ 5 ∧ 1 ≤ b ∧ b ≤ 65536 := by simpa [mayB] using h
    rw [w64 (x := b * 8) (by omega), or3 _ _ (by omega) (by omega) (by omega) (by omega) (by omega)]
    congr 1; omega
  · rw [if_neg h, if_neg h]

theorem parts_eq (k : Nat) (w : Int) (hw : w ≤ 9223372036854775807) :
    ref_parts.f (k + 1) w = some (if rightB w = true then (w % 8, w / 8, true) else (0, 0, false)) := by
  unfold ref_parts.f
  by_cases h1 : w < 0
  · rw [if_pos h1]; rw [ref_parts.j0, if_pos rfl, if_neg]
    rw [rightB_iff]; omega
  · rw [if_neg h1]
    rw [ref_parts.j0]
    by_cases h2 : w > 524296
    · rw [if_pos (decide_eq_true h2), if_neg]
      rw [rightB_iff]; omega
    · rw [if_neg (by simpa using h2), may_eq, and7 w (by omega) (by omega)]; simp only [Option.bind_some]
      by_cases h3 : mayB (w % 8) (w / 8) = true
      · rw [if_pos h3, if_pos]
        have h' : 1 ≤ w % 8 ∧ w % 8 ≤ 5 ∧ 1 ≤ w / 8 ∧ w / 8 ≤ 65536 := by simpa [mayB] using h3
        rw [rightB_iff]; omega
      · rw [if_neg h3, if_neg]
        have h' : ¬ (1 ≤ w % 8 ∧ w % 8 ≤ 5 ∧ 1 ≤ w / 8 ∧ w / 8 ≤ 65536) := by simpa [mayB] using h3
        rw [rightB_iff]; omega

theorem right_eq (k : Nat) (w : Int) (hw : w ≤ 9223372036854775807) : ref_Right.f (k + 1) w = some (rightB w) := by
  unfold ref_Right.f; rw [parts_eq k w hw]; simp only [Option.bind_some]
  by_cases h : rightB w = true
  · rw [if_pos h, h]
  · rw [if_neg h]; simp [Bool.not_eq_true] at h; rw [h]
theorem kind_eq (k : Nat) (w : Int) (hw : w ≤ 9223372036854775807) : ref_Kind.f (k + 1) w = some (kindI w) := by
  unfold ref_Kind.f kindI; rw [parts_eq k w hw]; simp only [Option.bind_some]
  by_cases h : rightB w = true
  · rw [if_pos h, if_pos h]
  · rw [if_neg h, if_neg h]
theorem at_eq (k : Nat) (w : Int) (hw : w ≤ 9223372036854775807) : ref_At.f (k + 1) w = some (atI w) := by
  unfold ref_At.f atI; rw [parts_eq k w hw]; simp only [Option.bind_some]
  by_cases h : rightB w = true
  · rw [if_pos h, if_pos h]
  · rw [if_neg h, if_neg h]

theorem known_eq (k : Nat) : ordinatelaw1_known.f (k + 1) = some true := by
  unfold ordinatelaw1_known.f
  rw [of_eq, of_eq, of_eq, kind_eq k 26 (by decide), at_eq k 26 (by decide), right_eq k 26 (by decide), right_eq k 8 (by decide), right_eq k 30 (by decide), kind_eq k (-6) (by decide)]
  decide +kernel

theorem RefKnown : ordinatelaw1_RefKnown.Pure := by
  refine ⟨1, ?_⟩
  unfold ordinatelaw1_RefKnown.f
  rw [known_eq, of_eq, of_eq, of_eq, of_eq, of_eq, right_eq 0 9 (by decide), right_eq 0 5 (by decide), right_eq 0 0 (by decide), right_eq 0 524297 (by decide), at_eq 0 8 (by decide), right_eq 0 (-9223372036854775808) (by decide)]
  decide +kernel

end Go.Proofs.Ytijdflmcabfkgaa.Pure
