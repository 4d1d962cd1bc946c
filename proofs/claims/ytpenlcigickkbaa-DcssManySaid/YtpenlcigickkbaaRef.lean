/- ref's functions, Cut, Words, the records' cells, over the abstract machine: what each comes to. -/
import Derived.Test.YtpenlcigickkbaaFun1
import Derived.Test.YtpenlcigickkbaaFun2
import Derived.Test.YtpenlcigickkbaaFun3
import Derived.Test.YtpenlcigickkbaaFun4
import Derived.Test.YtpenlcigickkbaaFun5
import Derived.Test.YtpenlcigickkbaaMem
import Derived.IntWalk
import Derived.Laws.BitsLemmas
namespace Go.Proofs.Ytpenlcigickkbaa.Fun
open Go.RowKit Go.Proofs.YtpenlcigickkbaaA.Am
set_option linter.unusedVariables false
set_option linter.unusedSimpArgs false
theorem wraps63 (n : Int) (_h₀ : 0 ≤ n) (h₁ : n < 2 ^ 63) : IntKind.i64.wrap n = n := by rw [IntKind.wrap_i64]; omega
theorem and7 (x : Int) (h0 : 0 ≤ x) (h1 : x < 2 ^ 63) : Go.bits .and .i64 x 7 = x % 8 :=
  bits_mask .i64 63 (by decide) wraps63 3 (by decide) x h0 h1
theorem or3 (x y : Int) (h0 : 0 ≤ x) (hx : x % 8 = 0) (h1 : x < 2 ^ 63) (hy0 : 0 ≤ y) (hy : y < 8) : Go.bits .or .i64 x y = x + y :=
  bits_join .i64 63 (by decide) wraps63 3 x y h0 hx h1 hy0 hy (by omega)
theorem shl3 (t : TypeId) (a : Int) : abin Try.prog .shl t (cv a) (.int .u64 3) = some (cv (IntKind.i64.wrap (a * 8))) := rfl
theorem shr3 (t : TypeId) (a : Int) : abin Try.prog .shr t (cv a) (.int .u64 3) = some (cv (a.fdiv 8)) := rfl
def rightB (w : Int) : Bool := decide (8 < w ∧ 1 ≤ w % 8 ∧ w % 8 ≤ 5 ∧ w / 8 ≤ 65536)
def kindI (w : Int) : Int := if rightB w = true then w % 8 else 0
def atI (w : Int) : Int := if rightB w = true then w / 8 else 0
def mayB (a b : Int) : Bool := decide (1 ≤ a ∧ a ≤ 5 ∧ 1 ≤ b ∧ b ≤ 65536)
def ofI (a b : Int) : Int := if mayB a b = true then 8 * b + a else 0
theorem rightB_iff (w : Int) : rightB w = true ↔ (8 < w ∧ 1 ≤ w % 8 ∧ w % 8 ≤ 5 ∧ w / 8 ≤ 65536) := by simp [rightB]
theorem mayB_iff (a b : Int) : mayB a b = true ↔ (1 ≤ a ∧ a ≤ 5 ∧ 1 ≤ b ∧ b ≤ 65536) := by simp [mayB]
/-- The closed functions that are told. -/
theorem known_runs (k : FuncId) (hk : ks.contains k = true) (n : Nat) (H : Heap) : run (knownG ks) (n + 1) k [] H = some (.bool true, H) := by
  unfold run
  show (if (ks ++ badOf Try.prog).contains k = true then knownG ks k [] H else _) = _
  rw [if_pos (by simp only [List.contains_eq_mem, decide_eq_true_eq, List.mem_append] at hk ⊢; exact .inl hk)]
  unfold knownG; rw [if_pos ⟨hk, rfl⟩]
section
variable {G : Oracle} {H : Heap} {o : Own}
theorem may_runs (n : Nat) (a b : Int) (H : Heap) : run G (n + 1) 79 [cv a, cv b] H = some (.bool (mayB a b), H) := by
  rw [F79_eq]
  by_cases h1 : 1 ≤ a <;> by_cases h2 : a ≤ 5 <;> by_cases h3 : 1 ≤ b <;> by_cases h4 : b ≤ 65536 <;>
    simp -implicitDefEqProofs [F79, geq_int, leq_int, pick_bool, mayB, h1, h2, h3, h4]
theorem Of_runs (n : Nat) (a b : Int) (H : Heap) : run G (n + 2) 55 [cv a, cv b] H = some (cv (ofI a b), H) := by
  rw [F55_eq]
  by_cases h : mayB a b = true
  · have h' := (mayB_iff a b).1 h
    have e : bits .or .i64 (b * 8) a = b * 8 + a := or3 _ _ (by omega) (by omega) (by omega) (by omega) (by omega)
    simp -implicitDefEqProofs [F55, may_runs, h, not_bool, shl3, or_int, ofI, w64 (x := b * 8) (by omega), e, Int.mul_comm]
  · simp -implicitDefEqProofs [F55, may_runs, h, not_bool, ofI]
theorem parts_runs (n : Nat) (w : Int) (hw : w ≤ 9223372036854775807) (H : Heap) : run G (n + 2) 77 [cv w] H = some (.tuple #[cv (kindI w), cv (atI w), .bool (rightB w)], H) := by
  rw [F77_eq]
  by_cases h1 : w < 0
  · have hr : rightB w = false := by rw [← Bool.not_eq_true, rightB_iff]; omega
    simp -implicitDefEqProofs [F77, lss_int, h1, pick_bool, kindI, atI, hr]
  · by_cases h2 : w > 524296
    · have hr : rightB w = false := by rw [← Bool.not_eq_true, rightB_iff]; omega
      simp -implicitDefEqProofs [F77, lss_int, gtr_int, h1, h2, pick_bool, kindI, atI, hr]
    · have ed : Int.fdiv w 8 = w / 8 := by rw [Int.fdiv_eq_ediv_of_nonneg _ (by omega)]
      by_cases h3 : mayB (w % 8) (w / 8) = true
      · have h' := (mayB_iff _ _).1 h3
        have hr : rightB w = true := by rw [rightB_iff]; omega
        simp -implicitDefEqProofs [F77, lss_int, gtr_int, h1, h2, pick_bool, kindI, atI, hr, and_int, shr3, and7 w (by omega) (by omega), ed, may_runs, h3, not_bool]
      · have hr : rightB w = false := by
          rw [← Bool.not_eq_true, rightB_iff]; rw [mayB_iff] at h3; omega
        simp -implicitDefEqProofs [F77, lss_int, gtr_int, h1, h2, pick_bool, kindI, atI, hr, and_int, shr3, and7 w (by omega) (by omega), ed, may_runs, h3, not_bool]
theorem RAt_runs (n : Nat) (w : Int) (hw : w ≤ 9223372036854775807) (H : Heap) : run G (n + 3) 53 [cv w] H = some (cv (atI w), H) := by
  rw [F53_eq]; simp -implicitDefEqProofs [F53, parts_runs _ w hw, ext_i]
theorem Kind_runs (n : Nat) (w : Int) (hw : w ≤ 9223372036854775807) (H : Heap) : run G (n + 3) 52 [cv w] H = some (cv (kindI w), H) := by
  rw [F52_eq]; simp -implicitDefEqProofs [F52, parts_runs _ w hw, ext_i]
theorem Cut_runs (n : Nat) (a k : Int) (ha : -9223372036854775808 ≤ a ∧ a ≤ 9223372036854775807) (hk : 0 < k ∧ k ≤ 4611686018427387904) (H : Heap) : run G (n + 1) 15 [cv a, cv k] H = some (cv (a % k), H) := by
  rw [F15_eq]
  have h0 : k ≠ 0 := by omega
  have h1 := Int.emod_nonneg a h0
  have h2 := Int.emod_lt_of_pos a hk.1
  have e : a.tmod k = if 0 ≤ a ∨ a % k = 0 then a % k else a % k - k := by
    rw [Int.tmod_eq_emod]
    by_cases h : 0 ≤ a ∨ k ∣ a
    · have h' : 0 ≤ a ∨ a % k = 0 := h.imp id (fun h => Int.emod_eq_zero_of_dvd h)
      simp [h, h']
    · have h' : ¬ (0 ≤ a ∨ a % k = 0) := fun hh => h (hh.imp id (fun h => Int.dvd_of_emod_eq_zero h))
      simp only [h, h', if_false]; rw [Int.natAbs_of_nonneg (by omega)]
  by_cases hc : 0 ≤ a ∨ a % k = 0
  · have e2 : ¬ (a % k < 0) := by omega
    simp -implicitDefEqProofs [F15, F15_j0_v, F15_j0v, rem_int _ _ _ h0, e, hc, lss_int, e2]
  · have e2 : (a % k - k < 0) := by omega
    have e3 : IntKind.i64.wrap (a % k) = a % k := w64 (by omega)
    simp -implicitDefEqProofs [F15, F15_j0_v, F15_j0v, rem_int _ _ _ h0, e, hc, lss_int, e2, add_int, e3]

/-- A loop that goes on as long as a measure allows. -/
theorem iter_go {step : List Value → Heap → AOut} {Q : Nat → List Value → Heap → Prop} {R : AExit × List Value × Heap → Prop}
    (h : ∀ k vs H, Q k vs H → (∃ vs' H' k', k' < k ∧ step vs H = some (.normal, vs', H') ∧ Q k' vs' H') ∨ (∃ r, step vs H = some r ∧ r.1 ≠ .normal ∧ R r)) :
    ∀ k vs H, Q k vs H → ∀ n, k < n → ∃ r, iter n step vs H = some r ∧ r.1 ≠ .normal ∧ R r := by
  intro k
  induction k using Nat.strongRecOn with
  | ind k ih =>
    intro vs H hq n hn
    cases n with
    | zero => omega
    | succ n =>
      rcases h k vs H hq with ⟨vs', H', k', hk, hs, hq'⟩ | ⟨r, hs, hne, hr⟩
      · obtain ⟨r, h1, h2, h3⟩ := ih k' hk vs' H' hq' n (by omega)
        exact ⟨r, by simp only [iter, hs]; exact h1, h2, h3⟩
      · obtain ⟨e, vs', H'⟩ := r
        refine ⟨_, ?_, hne, hr⟩
        cases e with
        | normal => exact absurd rfl hne
        | exit i => simp only [iter, hs]
        | ret => simp only [iter, hs]

theorem Words_runs {x y : Value} {l m : List Int} (hx : Ints H x l) (hy : Ints H y m) (hl : l.length ≤ 65536) (n : Nat) :
    run G (n + 65538) 27 [x, y] H = some (.bool (decide (l = m)), H) := by
  rw [F27_eq]
  by_cases hlen : (l.length : Int) = m.length
  · have hlen' : l.length = m.length := by omega
    obtain ⟨r, hit, hne, hH, hr⟩ := iter_go (step := F27_b0 (run G (n + 65537)) (n + 65537))
      (Q := fun k vs H' => H' = H ∧ ∃ (j : Nat) (v14 v25 : Value), j + k = l.length ∧ l.take j = m.take j ∧ vs = [x, y, .bool false, .bool false, cv j, v14, v25])
      (R := fun r => r.2.2 = H ∧ ((l = m ∧ r.1 = .exit 0) ∨ (l ≠ m ∧ r.1 = .ret ∧ ∃ v5 v14 v25, r.2.1 = [x, y, .bool false, .bool false, v5, v14, v25])))
      (by
        rintro k vs H' ⟨rfl, j, v14, v25, hj, ht, rfl⟩
        cases k with
        | zero =>
          have h1 : ¬ ((j : Int) < l.length) := by omega
          refine .inr ⟨(.exit 0, [x, y, .bool false, .bool false, cv j, .bool false, v25], H'), ?_, by simp, rfl, .inl ⟨?_, rfl⟩⟩
          · simp -implicitDefEqProofs [F27_b0_v, F27_b0v, hx.len, lss_int, h1, fin]
          · rw [List.take_of_length_le (by omega), List.take_of_length_le (by omega)] at ht; exact ht
        | succ k =>
          have h1 : ((j : Int) < l.length) := by omega
          obtain ⟨i1, o1, b1, hi1, hb1, hc1⟩ := hx.idx (j := j) (by omega)
          obtain ⟨i2, o2, b2, hi2, hb2, hc2⟩ := hy.idx (j := j) (by omega)
          by_cases he : l.getD j 0 = m.getD j 0
          · have hw : IntKind.i64.wrap ((j : Int) + 1) = ((j + 1 : Nat) : Int) := by rw [w64 (by omega)]; omega
            have ht' : l.take (j + 1) = m.take (j + 1) := by
              rw [List.take_add_one, List.take_add_one, ht]
              rw [List.getElem?_eq_getElem (by omega), List.getElem?_eq_getElem (by omega)]
              rw [List.getD_eq_getElem?_getD, List.getD_eq_getElem?_getD, List.getElem?_eq_getElem (by omega), List.getElem?_eq_getElem (by omega)] at he
              simp at he; rw [he]
            refine .inl ⟨[x, y, .bool false, .bool false, cv ((j + 1 : Nat) : Int), .bool true, .bool false], H', k, Nat.lt_succ_self k, ?_, rfl, j + 1, _, _, by omega, ht', rfl⟩
            simp -implicitDefEqProofs [-List.getD_eq_getElem?_getD, -Int.natCast_add, F27_b0_v, F27_b0v, hx.len, lss_int, h1, hi1, hi2, ld1_pv _ _ _ hb1, ld1_pv _ _ _ hb2, hc1, hc2, neq_int, he, add_int, hw, fin]
          · refine .inr ⟨(.ret, [x, y, .bool false, .bool false, cv j, .bool true, .bool true], H'), ?_, by simp, rfl, .inr ⟨fun e => he (by rw [e]), rfl, _, _, _, rfl⟩⟩
            simp -implicitDefEqProofs [-List.getD_eq_getElem?_getD, F27_b0_v, F27_b0v, hx.len, lss_int, h1, hi1, hi2, ld1_pv _ _ _ hb1, ld1_pv _ _ _ hb2, hc1, hc2, neq_int, he, fin])
      l.length [x, y, .bool false, .bool false, cv (0 : Nat), undef, undef] H ⟨rfl, 0, _, _, by omega, rfl, rfl⟩ (n + 65537) (by omega)
    obtain ⟨e, vs, H2⟩ := r
    simp only at hH hr; subst hH
    have hit' : iter (n + 65537) (F27_b0 (run G (n + 65537)) (n + 65537)) [x, y, .bool false, .bool false, cv 0, undef, undef] H2 = some (e, vs, H2) := hit
    rcases hr with ⟨hlm, rfl⟩ | ⟨hlm, rfl, v5, v14, v25, rfl⟩
    · simp -implicitDefEqProofs [F27, hx.len, hy.len, neq_int, hlen', hit', F27_j1, hlm]
    · simp -implicitDefEqProofs [F27, hx.len, hy.len, neq_int, hlen', hit', hlm, resK, Env.get]
  · have : l ≠ m := fun e => hlen (by rw [e])
    simp -implicitDefEqProofs [F27, hx.len, hy.len, neq_int, hlen, this]
end
end Go.Proofs.Ytpenlcigickkbaa.Fun
