/- RefBack over the abstract machine: what ref's functions come to, then the law. -/
import Derived.Test.YtijdflmcabfkgaaFun
import Derived.IntWalk
import Derived.Laws.BitsLemmas
namespace Go.Proofs.Ytijdflmcabfkgaa.Fun
open Go.RowKit Go.Proofs.YtijdflmcabfkgaaA.Am
set_option linter.unusedVariables false
set_option linter.unusedSimpArgs false
abbrev cv (x : Int) : Value := .int .i64 x
theorem w64 {x : Int} (h : -9223372036854775808 ≤ x ∧ x ≤ 9223372036854775807) : IntKind.i64.wrap x = x := by rw [IntKind.wrap_i64]; omega
theorem in64 {x : Int} (h : (Lit.int .i64 x).wf = true) : -9223372036854775808 ≤ x ∧ x ≤ 9223372036854775807 := by
  simpa [Lit.wf, IntKind.min, IntKind.max, IntKind.signed, IntKind.bits] using h
theorem wraps63 (n : Int) (_h₀ : 0 ≤ n) (h₁ : n < 2 ^ 63) : IntKind.i64.wrap n = n := by rw [IntKind.wrap_i64]; omega
theorem and7 (x : Int) (h0 : 0 ≤ x) (h1 : x < 2 ^ 63) : Go.bits .and .i64 x 7 = x % 8 :=
  bits_mask .i64 63 (by decide) wraps63 3 (by decide) x h0 h1
theorem or3 (x y : Int) (h0 : 0 ≤ x) (hx : x % 8 = 0) (h1 : x < 2 ^ 63) (hy0 : 0 ≤ y) (hy : y < 8) : Go.bits .or .i64 x y = x + y :=
  bits_join .i64 63 (by decide) wraps63 3 x y h0 hx h1 hy0 hy (by omega)
def rightB (w : Int) : Bool := decide (8 < w ∧ 1 ≤ w % 8 ∧ w % 8 ≤ 5 ∧ w / 8 ≤ 65536)
def kindI (w : Int) : Int := if rightB w = true then w % 8 else 0
def atI (w : Int) : Int := if rightB w = true then w / 8 else 0
def mayB (a b : Int) : Bool := decide (1 ≤ a ∧ a ≤ 5 ∧ 1 ≤ b ∧ b ≤ 65536)
def ofI (a b : Int) : Int := if mayB a b = true then 8 * b + a else 0
theorem rightB_iff (w : Int) : rightB w = true ↔ (8 < w ∧ 1 ≤ w % 8 ∧ w % 8 ≤ 5 ∧ w / 8 ≤ 65536) := by simp [rightB]
theorem mayB_iff (a b : Int) : mayB a b = true ↔ (1 ≤ a ∧ a ≤ 5 ∧ 1 ≤ b ∧ b ≤ 65536) := by simp [mayB]

theorem lss_int (t : TypeId) (a b : Int) : abin Try.prog .lss t (cv a) (cv b) = some (.bool (decide (a < b))) := rfl
theorem gtr_int (t : TypeId) (a b : Int) : abin Try.prog .gtr t (cv a) (cv b) = some (.bool (decide (a > b))) := rfl
theorem leq_int (t : TypeId) (a b : Int) : abin Try.prog .leq t (cv a) (cv b) = some (.bool (decide (a ≤ b))) := rfl
theorem geq_int (t : TypeId) (a b : Int) : abin Try.prog .geq t (cv a) (cv b) = some (.bool (decide (a ≥ b))) := rfl
theorem eql_int (t : TypeId) (a b : Int) : abin Try.prog .eql t (cv a) (cv b) = some (.bool (decide (a = b))) := by
  have h : (a == b) = decide (a = b) := by by_cases e : a = b <;> simp [e]
  rw [← h]; rfl
theorem neq_int (t : TypeId) (a b : Int) : abin Try.prog .neq t (cv a) (cv b) = some (.bool (!decide (a = b))) := by
  have h : (a == b) = decide (a = b) := by by_cases e : a = b <;> simp [e]
  rw [← h]; rfl
theorem and_int (t : TypeId) (a b : Int) : abin Try.prog .and t (cv a) (cv b) = some (cv (bits .and .i64 a b)) := rfl
theorem or_int (t : TypeId) (a b : Int) : abin Try.prog .or t (cv a) (cv b) = some (cv (bits .or .i64 a b)) := rfl
theorem shl3 (t : TypeId) (a : Int) : abin Try.prog .shl t (cv a) (.int .u64 3) = some (cv (IntKind.i64.wrap (a * 8))) := rfl
theorem shr3 (t : TypeId) (a : Int) : abin Try.prog .shr t (cv a) (.int .u64 3) = some (cv (a.fdiv 8)) := rfl
theorem eql_bool (a b : Bool) : abin Try.prog .eql 4 (.bool a) (.bool b) = some (.bool (a == b)) := by cases a <;> cases b <;> kernel_rfl
theorem not_bool (b : Bool) : aun .not (.bool b) = some (.bool !b) := rfl
theorem pick_bool (b : Bool) (x y : Value) (H : Heap) : pickS (.bool b) x y H = some (if b then x else y, H) := rfl
theorem ext0 (a b c : Value) (H : Heap) : extS 0 (.tuple #[a, b, c]) H = some (a, H) := rfl
theorem ext1 (a b c : Value) (H : Heap) : extS 1 (.tuple #[a, b, c]) H = some (b, H) := rfl
theorem ext2 (a b c : Value) (H : Heap) : extS 2 (.tuple #[a, b, c]) H = some (c, H) := rfl

theorem may_spec (G : Oracle) (n : Nat) (a b : Int) (H : Heap) : acall Try.prog (badOf Try.prog) G (n + 1) 18 [cv a, cv b] H = some (.bool (mayB a b), H) := by
  rw [F18_eq]
  by_cases h1 : 1 ≤ a <;> by_cases h2 : a ≤ 5 <;> by_cases h3 : 1 ≤ b <;> by_cases h4 : b ≤ 65536 <;>
    simp -implicitDefEqProofs [F18, geq_int, leq_int, pick_bool, mayB, h1, h2, h3, h4]
theorem of_spec (G : Oracle) (n : Nat) (a b : Int) (H : Heap) : acall Try.prog (badOf Try.prog) G (n + 2) 9 [cv a, cv b] H = some (cv (ofI a b), H) := by
  rw [F9_eq]
  by_cases h : mayB a b = true
  · have h' := (mayB_iff a b).1 h
    have e : bits .or .i64 (b * 8) a = b * 8 + a := or3 _ _ (by omega) (by omega) (by omega) (by omega) (by omega)
    simp -implicitDefEqProofs [F9, may_spec, h, not_bool, shl3, or_int, ofI, w64 (x := b * 8) (by omega), e, Int.mul_comm]
  · simp -implicitDefEqProofs [F9, may_spec, h, not_bool, ofI]
theorem parts_spec (G : Oracle) (n : Nat) (w : Int) (hw : w ≤ 9223372036854775807) (H : Heap) : acall Try.prog (badOf Try.prog) G (n + 2) 19 [cv w] H = some (.tuple #[cv (kindI w), cv (atI w), .bool (rightB w)], H) := by
  rw [F19_eq]
  by_cases h1 : w < 0
  · have hr : rightB w = false := by rw [← Bool.not_eq_true, rightB_iff]; omega
    simp -implicitDefEqProofs [F19, lss_int, h1, pick_bool, kindI, atI, hr]
  · by_cases h2 : w > 524296
    · have hr : rightB w = false := by rw [← Bool.not_eq_true, rightB_iff]; omega
      simp -implicitDefEqProofs [F19, lss_int, gtr_int, h1, h2, pick_bool, kindI, atI, hr]
    · have ed : Int.fdiv w 8 = w / 8 := by rw [Int.fdiv_eq_ediv_of_nonneg _ (by omega)]
      by_cases h3 : mayB (w % 8) (w / 8) = true
      · have h' := (mayB_iff _ _).1 h3
        have hr : rightB w = true := by rw [rightB_iff]; omega
        simp -implicitDefEqProofs [F19, lss_int, gtr_int, h1, h2, pick_bool, kindI, atI, hr, and_int, shr3, and7 w (by omega) (by omega), ed, may_spec, h3, not_bool]
      · have hr : rightB w = false := by
          rw [← Bool.not_eq_true, rightB_iff]; rw [mayB_iff] at h3; omega
        simp -implicitDefEqProofs [F19, lss_int, gtr_int, h1, h2, pick_bool, kindI, atI, hr, and_int, shr3, and7 w (by omega) (by omega), ed, may_spec, h3, not_bool]
theorem right_spec (G : Oracle) (n : Nat) (w : Int) (hw : w ≤ 9223372036854775807) (H : Heap) : acall Try.prog (badOf Try.prog) G (n + 3) 10 [cv w] H = some (.bool (rightB w), H) := by
  rw [F10_eq]; simp -implicitDefEqProofs [F10, parts_spec _ _ w hw, ext0, ext1, ext2]
theorem at_spec (G : Oracle) (n : Nat) (w : Int) (hw : w ≤ 9223372036854775807) (H : Heap) : acall Try.prog (badOf Try.prog) G (n + 3) 11 [cv w] H = some (cv (atI w), H) := by
  rw [F11_eq]; simp -implicitDefEqProofs [F11, parts_spec _ _ w hw, ext0, ext1, ext2]
theorem kind_spec (G : Oracle) (n : Nat) (w : Int) (hw : w ≤ 9223372036854775807) (H : Heap) : acall Try.prog (badOf Try.prog) G (n + 3) 14 [cv w] H = some (cv (kindI w), H) := by
  rw [F14_eq]; simp -implicitDefEqProofs [F14, parts_spec _ _ w hw, ext0, ext1, ext2]
theorem known_spec (G : Oracle) (n : Nat) (H : Heap) : acall Try.prog (badOf Try.prog) G (n + 4) 8 [] H = some (.bool true, H) := by
  rw [F8_eq]
  have e1 : ofI 2 3 = 26 := by decide
  have e2 : ofI 0 3 = 0 := by decide
  have e3 : ofI 2 0 = 0 := by decide
  have e4 : kindI 26 = 2 := by decide
  have e5 : atI 26 = 3 := by decide
  have e6 : rightB 26 = true := by decide
  have e7 : rightB 8 = false := by decide
  have e8 : rightB 30 = false := by decide
  have e9 : kindI (-6) = 0 := by decide
  simp -implicitDefEqProofs [F8, of_spec, kind_spec, at_spec, right_spec, e1, e2, e3, e4, e5, e6, e7, e8, e9, eql_int, pick_bool, not_bool]
theorem back_run (G : Oracle) (n : Nat) (kind at_ w : Int) (hw : w ≤ 9223372036854775807) (H : Heap) : acall Try.prog (badOf Try.prog) G (n + 5) 5 [cv kind, cv at_, cv w] H = some (.bool true, H) := by
  rw [F5_eq]
  have hx : ofI kind at_ ≤ 9223372036854775807 := by
    unfold ofI; split
    · rename_i h; rw [mayB_iff] at h; omega
    · omega
  by_cases hm : mayB kind at_ = true
  · have h' := (mayB_iff _ _).1 hm
    have ex : ofI kind at_ = 8 * at_ + kind := by simp [ofI, hm]
    have er : rightB (8 * at_ + kind) = true := by rw [rightB_iff]; omega
    have ek : kindI (8 * at_ + kind) = kind := by simp [kindI, er]; omega
    have ea : atI (8 * at_ + kind) = at_ := by simp [atI, er]; omega
    have en : (8 * at_ + kind) ≠ 0 := by omega
    rw [ex] at hx
    by_cases hr : rightB w = true
    · have hr' := (rightB_iff w).1 hr
      have em : mayB (w % 8) (w / 8) = true := by rw [mayB_iff]; omega
      have eo : ofI (w % 8) (w / 8) = w := by simp [ofI, em]; omega
      have k0 : w % 8 ≠ 0 := by omega
      have a0 : w / 8 ≠ 0 := by omega
      have kw : kindI w = w % 8 := by simp [kindI, hr]
      have aw : atI w = w / 8 := by simp [atI, hr]
      simp -implicitDefEqProofs [F5, of_spec, kind_spec _ _ _ hx, at_spec _ _ _ hx, right_spec _ _ _ hx, kind_spec _ _ w hw, at_spec _ _ w hw, right_spec _ _ w hw, known_spec, ex, er, ek, ea, en, kw, aw, hr, eo, k0, a0, h'.1, h'.2.1, h'.2.2.1, h'.2.2.2, eql_int, neq_int, geq_int, leq_int, eql_bool, pick_bool, not_bool]
    · have kw : kindI w = 0 := by simp [kindI, hr]
      have aw : atI w = 0 := by simp [atI, hr]
      simp -implicitDefEqProofs [F5, of_spec, kind_spec _ _ _ hx, at_spec _ _ _ hx, right_spec _ _ _ hx, kind_spec _ _ w hw, at_spec _ _ w hw, right_spec _ _ w hw, known_spec, ex, er, ek, ea, en, kw, aw, hr, h'.1, h'.2.1, h'.2.2.1, h'.2.2.2, eql_int, neq_int, geq_int, leq_int, eql_bool, pick_bool, not_bool]
  · have ex : ofI kind at_ = 0 := by simp [ofI, hm]
    have h' := mt (mayB_iff kind at_).2 hm
    have key : ∀ (H : Heap), True := fun _ => trivial
    by_cases hr : rightB w = true
    · have hr' := (rightB_iff w).1 hr
      have em : mayB (w % 8) (w / 8) = true := by rw [mayB_iff]; omega
      have eo : ofI (w % 8) (w / 8) = w := by simp [ofI, em]; omega
      have k0 : w % 8 ≠ 0 := by omega
      have a0 : w / 8 ≠ 0 := by omega
      have kw : kindI w = w % 8 := by simp [kindI, hr]
      have aw : atI w = w / 8 := by simp [atI, hr]
      by_cases h1 : 1 ≤ kind <;> by_cases h2 : kind ≤ 5 <;> by_cases h3 : 1 ≤ at_ <;> by_cases h4 : at_ ≤ 65536 <;>
        first
        | (exfalso; omega)
        | simp -implicitDefEqProofs [F5, of_spec, kind_spec _ _ w hw, at_spec _ _ w hw, right_spec _ _ w hw, known_spec, ex, kw, aw, hr, eo, k0, a0, h1, h2, h3, h4, eql_int, neq_int, geq_int, leq_int, eql_bool, pick_bool, not_bool]
    · have kw : kindI w = 0 := by simp [kindI, hr]
      have aw : atI w = 0 := by simp [atI, hr]
      by_cases h1 : 1 ≤ kind <;> by_cases h2 : kind ≤ 5 <;> by_cases h3 : 1 ≤ at_ <;> by_cases h4 : at_ ≤ 65536 <;>
        first
        | (exfalso; omega)
        | simp -implicitDefEqProofs [F5, of_spec, kind_spec _ _ w hw, at_spec _ _ w hw, right_spec _ _ w hw, known_spec, ex, kw, aw, hr, h1, h2, h3, h4, eql_int, neq_int, geq_int, leq_int, eql_bool, pick_bool, not_bool]
end Go.Proofs.Ytijdflmcabfkgaa.Fun
namespace Go.Proofs.Ytijdflmcabfkgaa.Pure
open Go.RowKit Go.Proofs.YtijdflmcabfkgaaA.Am
theorem okRefBack : okProg Try.prog (badOf Try.prog) = true := by kernel_rfl
theorem RefBack_walk (kind at_ w : Int) (w0 : World) (_h0 : (Lit.int .i64 kind).wf = true) (_h1 : (Lit.int .i64 at_).wf = true) (h2 : (Lit.int .i64 w).wf = true) :
    Calls Try.prog 5 #[.int .i64 kind, .int .i64 at_, .int .i64 w] w0 fun e w' => e = .returned (.bool true) ∧ Below w0.heap.size w0 w' := by
  exact law_true okRefBack (Fun.back_run noG 0 kind at_ w (Fun.in64 h2).2 []) (Sim.empty w0) (.cons (.plain _ rfl) (.cons (.plain _ rfl) (.cons (.plain _ rfl) .nil)))
end Go.Proofs.Ytijdflmcabfkgaa.Pure
