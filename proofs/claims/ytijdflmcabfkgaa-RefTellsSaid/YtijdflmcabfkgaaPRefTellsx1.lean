-- PRINTED BY print.sh 35421559b90ae4d0a3588c463048766b98c2df88dd9212a6774a882060cdf62d: not written by this session
import Derived.Test.YtijdflmcabfkgaaPRefTellsx0
namespace Go.Proofs.Ytijdflmcabfkgaa.PRefTells
open Go.RowKit Go.Proofs.YtijdflmcabfkgaaW.PrintWords Go.Proofs.YtijdflmcabfkgaaW.PrintLast Go.Proofs.YtijdflmcabfkgaaW.PrintMore
attribute [local go_sem] max2_int min2_int max_two min_two max_three min_three max_four min_four   -- for this text's walks alone
set_option linter.unusedVariables false
set_option linter.unusedSimpArgs false

/-! ### ref_may: function 18 -/
def ref_may.f (a0 : Int) (a1 : Int) : Option (Bool) := if a0 ≥ 1 then (if a0 ≤ 5 then (if a1 ≥ 1 then (some (decide (a1 ≤ 65536))) else (some false)) else (some false)) else (some false)
set_option maxHeartbeats 8000000 in
set_option maxRecDepth 100000 in
theorem ref_may.calls (a0 : Int) (a1 : Int) (r : Bool) (w : World) (h : ref_may.f a0 a1 = some r) :
    Calls Try.prog 18 #[.int .i64 a0, .int .i64 a1] w fun e w' => e = .returned (.bool r) ∧ Drawn0 w w' := by
  have H : (if a0 ≥ 1 then (if a0 ≤ 5 then (if a1 ≥ 1 then (some (decide (a1 ≤ 65536))) else (some false)) else (some false)) else (some false)) = some r := h
  clear h
  by_cases c3 : a0 ≥ 1
  · rw [if_pos c3] at H
    have c3b0 : decide (1 ≤ a0) = true := decide_eq_true c3
    clear c3
    by_cases c4 : a0 ≤ 5
    · rw [if_pos c4] at H
      have c4b0 : decide (a0 ≤ 5) = true := decide_eq_true c4
      clear c4
      by_cases c5 : a1 ≥ 1
      · rw [if_pos c5] at H
        have c5b0 : decide (1 ≤ a1) = true := decide_eq_true c5
        clear c5
        obtain rfl := Option.some.inj H
        go_enter Try.func18, Try.ntmps18
        go_wp2
        go_ret
        exact ⟨by first | rfl | (simp; done) | (simp [*]; done), by repeat (first | exact Drawn0.refl _ | apply Drawn0.step)⟩
      · rw [if_neg c5] at H
        have c5b0 : decide (1 ≤ a1) = false := decide_eq_false c5
        clear c5
        obtain rfl := Option.some.inj H
        go_enter Try.func18, Try.ntmps18
        go_wp2
        go_ret
        exact ⟨by first | rfl | (simp; done) | (simp [*]; done), by repeat (first | exact Drawn0.refl _ | apply Drawn0.step)⟩
    · rw [if_neg c4] at H
      have c4b0 : decide (a0 ≤ 5) = false := decide_eq_false c4
      clear c4
      obtain rfl := Option.some.inj H
      go_enter Try.func18, Try.ntmps18
      go_wp2
      go_ret
      exact ⟨by first | rfl | (simp; done) | (simp [*]; done), by repeat (first | exact Drawn0.refl _ | apply Drawn0.step)⟩
  · rw [if_neg c3] at H
    have c3b0 : decide (1 ≤ a0) = false := decide_eq_false c3
    clear c3
    obtain rfl := Option.some.inj H
    go_enter Try.func18, Try.ntmps18
    go_wp2
    go_ret
    exact ⟨by first | rfl | (simp; done) | (simp [*]; done), by repeat (first | exact Drawn0.refl _ | apply Drawn0.step)⟩

/-! ### ref_Of: function 9 -/
def ref_Of.f (a0 : Int) (a1 : Int) : Option (Int) := (ref_may.f a0 a1).bind fun t101 => (if t101 = true then (some (Go.bits .or .i64 (wrap64 (a1 * 8)) a0)) else (some 0))
set_option maxHeartbeats 8000000 in
set_option maxRecDepth 100000 in
theorem ref_Of.calls (a0 : Int) (a1 : Int) (r : Int) (w : World) (h : ref_Of.f a0 a1 = some r) :
    Calls Try.prog 9 #[.int .i64 a0, .int .i64 a1] w fun e w' => e = .returned (.int .i64 r) ∧ Drawn0 w w' := by
  have H : ((ref_may.f a0 a1).bind fun t101 => (if t101 = true then (some (Go.bits .or .i64 (wrap64 (a1 * 8)) a0)) else (some 0))) = some r := h
  clear h
  replace H := Option.bind_eq_some_iff.mp H
  obtain ⟨t101, A30, H⟩ := H
  replace H : (if t101 = true then (some (Go.bits .or .i64 (wrap64 (a1 * 8)) a0)) else (some 0)) = some r := H
  have A3 := Aside0.mk A30
  clear A30
  by_cases c4 : t101 = true
  · subst c4
    have H1 : (some (Go.bits .or .i64 (wrap64 (a1 * 8)) a0)) = some r := by rw [if_pos rfl] at H; exact H
    clear H
    have H := H1
    clear H1
    obtain rfl := Option.some.inj H
    go_enter Try.func9, Try.ntmps9
    go_wp2_with (first | ((with_reducible refine gate_callee (f := 18) rfl ?_); refine goesL_ (some 7) rfl rfl Try.func18 (by kernel_rfl) rfl #[.int .i64 a0, .int .i64 a1] rfl (by (try simp only [List.map_toArray, List.map_cons, List.map_nil]); first | done | rfl | (simp only [List.length_drop, List.length_take]; rfl)) ?_; (with_reducible refine (ref_may.calls a0 a1 true _ A3.out).mono ?_); rintro e w' ⟨rfl, ⟨nd, rfl⟩⟩; refine ⟨_, rfl, ?_⟩))
    go_ret
    exact ⟨by first | rfl | (simp; done) | (simp [*]; done), by repeat (first | exact Drawn0.refl _ | apply Drawn0.step)⟩
  · replace c4 := Bool.eq_false_iff.mpr c4
    subst c4
    have H1 : (some 0) = some r := by rw [if_neg (show ¬ (false = true) by decide)] at H; exact H
    clear H
    have H := H1
    clear H1
    obtain rfl := Option.some.inj H
    go_enter Try.func9, Try.ntmps9
    go_wp2_with (first | ((with_reducible refine gate_callee (f := 18) rfl ?_); refine goesL_ (some 7) rfl rfl Try.func18 (by kernel_rfl) rfl #[.int .i64 a0, .int .i64 a1] rfl (by (try simp only [List.map_toArray, List.map_cons, List.map_nil]); first | done | rfl | (simp only [List.length_drop, List.length_take]; rfl)) ?_; (with_reducible refine (ref_may.calls a0 a1 false _ A3.out).mono ?_); rintro e w' ⟨rfl, ⟨nd, rfl⟩⟩; refine ⟨_, rfl, ?_⟩))
    go_ret
    exact ⟨by first | rfl | (simp; done) | (simp [*]; done), by repeat (first | exact Drawn0.refl _ | apply Drawn0.step)⟩

/-! ### ref_parts: function 19 -/
def ref_parts.j0 : Nat → Int → Bool → Option (Int × Int × Bool)
  | 0, _, _ => none
  | k + 1, x0, x12 => if x12 = true then (some (0, 0, false)) else ((ref_may.f (Go.bits .and .i64 x0 7) (x0 / 8)).bind fun t102 => (if t102 = true then (some (Go.bits .and .i64 x0 7, x0 / 8, true)) else (some (0, 0, false))))
def ref_parts.f (k : Nat) (a0 : Int) : Option (Int × Int × Bool) := if a0 < 0 then (ref_parts.j0 k a0 true) else (ref_parts.j0 k a0 (decide (a0 > 524296)))
theorem ref_parts.mono_l : ∀ k, (∀ y0 y1, LeO (ref_parts.j0 k y0 y1) (ref_parts.j0 (k + 1) y0 y1))
  | 0 => fun _ _ r h => by simp [ref_parts.j0] at h
  | k + 1 => by
    have ih0 := ref_parts.mono_l k
    · intro y0 y1
      unfold ref_parts.j0
      repeat' first
      | (with_reducible exact ih0 _ _)
      | (with_reducible exact LeO.refl _)
      | (with_reducible exact LeO.none _)
      | (with_reducible refine LeO.ite ?_ ?_)
      | (with_reducible refine LeO.bind ?_ (fun _ => ?_))
      | exact ih0 _ _
      | exact LeO.none _
      | refine LeO.ite ?_ ?_
      | refine LeO.bind ?_ (fun _ => ?_)
theorem ref_parts.mono : ∀ a0 k, LeO (ref_parts.f k a0) (ref_parts.f (k + 1) a0) := by
  intro a0 k
  have ih0 := ref_parts.mono_l k
  unfold ref_parts.f
  repeat' first
      | (with_reducible exact ih0 _ _)
      | (with_reducible exact LeO.refl _)
      | (with_reducible exact LeO.none _)
      | (with_reducible refine LeO.ite ?_ ?_)
      | (with_reducible refine LeO.bind ?_ (fun _ => ?_))
      | exact ih0 _ _
      | exact LeO.none _
      | refine LeO.ite ?_ ?_
      | refine LeO.bind ?_ (fun _ => ?_)
set_option maxHeartbeats 8000000 in
set_option maxRecDepth 100000 in
theorem ref_parts.calls (k : Nat) (a0 : Int) (r1 : Int) (r2 : Int) (r3 : Bool) (w : World) (h : ref_parts.f k a0 = some (r1, r2, r3)) :
    Calls Try.prog 19 #[.int .i64 a0] w fun e w' => e = .returned (.tuple #[.int .i64 r1, .int .i64 r2, .bool r3]) ∧ Drawn0 w w' := by
  have H : (if a0 < 0 then (ref_parts.j0 k a0 true) else (ref_parts.j0 k a0 (decide (a0 > 524296)))) = some (r1, r2, r3) := h
  clear h
  have HC2 := Aside0.mk H
  clear H
  go_enter Try.func19, Try.ntmps19
  go_upto_region 1 with (fail)
  go_cut [12] (fun v12 wc => ∃ (kq : Nat) (x12_1 : Bool), v12 = .bool x12_1 ∧ Aside0 (ref_parts.j0 kq a0 x12_1 = some (r1, r2, r3)) ∧ Aside0 (kq ≤ k) ∧ Drawn0 w wc)
  case first =>
    have H := HC2.out
    clear HC2
    by_cases c3 : a0 < 0
    · rw [if_pos c3] at H
      have c3b0 : decide (a0 < 0) = true := decide_eq_true c3
      clear c3
      (first | rw [c3b0] | (simp only [i64_w, i32_w]; rw [c3b0]) | skip)
      have H' := Aside0.mk H
      clear H
      go_wp2
      go_meet
      case rel => exact ⟨_, (true), (by first | rfl | (simp; done) | (simp [*]; done)), H', ⟨by first | omega | exact Nat.le_refl _⟩, by repeat (first | exact Drawn0.refl _ | apply Drawn0.step)⟩
    · rw [if_neg c3] at H
      have c3b0 : decide (a0 < 0) = false := decide_eq_false c3
      clear c3
      (first | rw [c3b0] | (simp only [i64_w, i32_w]; rw [c3b0]) | skip)
      have H' := Aside0.mk H
      clear H
      go_wp2
      go_meet
      case rel => exact ⟨_, (decide (a0 > 524296)), (by first | rfl | (simp; done) | (simp [*]; done)), H', ⟨by first | omega | exact Nat.le_refl _⟩, by repeat (first | exact Drawn0.refl _ | apply Drawn0.step)⟩
  case rest =>
    clear HC2
    try clear c1
    try clear p2
    try clear c3
    try clear c3b0
    obtain ⟨kq, x12_1, rfl, HA, HJ1, ⟨mc1, rfl⟩⟩ := hcut
    cases kq with
    | zero => exact absurd HA.out (by simp [ref_parts.j0])
    | succ kj1 =>
      have H := HA.out
      clear HA
      simp only [ref_parts.j0] at H
      by_cases c4 : x12_1 = true
      · subst c4
        have H1 : (some (0, 0, false)) = some (r1, r2, r3) := by rw [if_pos rfl] at H; exact H
        clear H
        have H := H1
        clear H1
        simp only [Option.some.injEq, Prod.mk.injEq] at H
        obtain ⟨rfl, rfl, rfl⟩ := H
        go_wp2
        go_ret3
        exact ⟨by first | rfl | (simp; done) | (simp [*]; done), by repeat (first | exact Drawn0.refl _ | apply Drawn0.step)⟩
      · replace c4 := Bool.eq_false_iff.mpr c4
        subst c4
        have H1 : ((ref_may.f (Go.bits .and .i64 a0 7) (a0 / 8)).bind fun t102 => (if t102 = true then (some (Go.bits .and .i64 a0 7, a0 / 8, true)) else (some (0, 0, false)))) = some (r1, r2, r3) := by rw [if_neg (show ¬ (false = true) by decide)] at H; exact H
        clear H
        have H := H1
        clear H1
        replace H := Option.bind_eq_some_iff.mp H
        obtain ⟨t102, A50, H⟩ := H
        replace H : (if t102 = true then (some (Go.bits .and .i64 a0 7, a0 / 8, true)) else (some (0, 0, false))) = some (r1, r2, r3) := H
        have A5 := Aside0.mk A50
        clear A50
        by_cases c6 : t102 = true
        · subst c6
          have H1 : (some (Go.bits .and .i64 a0 7, a0 / 8, true)) = some (r1, r2, r3) := by rw [if_pos rfl] at H; exact H
          clear H
          have H := H1
          clear H1
          simp only [Option.some.injEq, Prod.mk.injEq] at H
          obtain ⟨rfl, rfl, rfl⟩ := H
          go_wp2_with (first | ((with_reducible refine gate_callee (f := 18) rfl ?_); refine goesL_ (some 19) rfl rfl Try.func18 (by kernel_rfl) rfl #[.int .i64 (Go.bits .and .i64 a0 7), .int .i64 (a0 / 8)] rfl (by (try simp only [List.map_toArray, List.map_cons, List.map_nil]); first | done | rfl | (simp only [List.length_drop, List.length_take]; rfl)) ?_; (with_reducible refine (ref_may.calls (Go.bits .and .i64 a0 7) (a0 / 8) true _ A5.out).mono ?_); rintro e w' ⟨rfl, ⟨nd, rfl⟩⟩; refine ⟨_, rfl, ?_⟩))
          go_ret3
          exact ⟨by first | rfl | (simp; done) | (simp [*]; done), by repeat (first | exact Drawn0.refl _ | apply Drawn0.step)⟩
        · replace c6 := Bool.eq_false_iff.mpr c6
          subst c6
          have H1 : (some (0, 0, false)) = some (r1, r2, r3) := by rw [if_neg (show ¬ (false = true) by decide)] at H; exact H
          clear H
          have H := H1
          clear H1
          simp only [Option.some.injEq, Prod.mk.injEq] at H
          obtain ⟨rfl, rfl, rfl⟩ := H
          go_wp2_with (first | ((with_reducible refine gate_callee (f := 18) rfl ?_); refine goesL_ (some 19) rfl rfl Try.func18 (by kernel_rfl) rfl #[.int .i64 (Go.bits .and .i64 a0 7), .int .i64 (a0 / 8)] rfl (by (try simp only [List.map_toArray, List.map_cons, List.map_nil]); first | done | rfl | (simp only [List.length_drop, List.length_take]; rfl)) ?_; (with_reducible refine (ref_may.calls (Go.bits .and .i64 a0 7) (a0 / 8) false _ A5.out).mono ?_); rintro e w' ⟨rfl, ⟨nd, rfl⟩⟩; refine ⟨_, rfl, ?_⟩))
          go_ret3
          exact ⟨by first | rfl | (simp; done) | (simp [*]; done), by repeat (first | exact Drawn0.refl _ | apply Drawn0.step)⟩

/-! ### ref_Right: function 10 -/
def ref_Right.f (k : Nat) (a0 : Int) : Option (Bool) := (ref_parts.f k a0).bind fun bt103 => (some bt103.2.2)
theorem ref_Right.mono : ∀ a0 k, LeO (ref_Right.f k a0) (ref_Right.f (k + 1) a0) := by
  intro a0 k
  unfold ref_Right.f
  repeat' first
      | (with_reducible exact ref_parts.mono _ _)
      | (with_reducible exact LeO.refl _)
      | (with_reducible exact LeO.none _)
      | (with_reducible refine LeO.ite ?_ ?_)
      | (with_reducible refine LeO.bind ?_ (fun _ => ?_))
      | exact ref_parts.mono _ _
      | exact LeO.none _
      | refine LeO.ite ?_ ?_
      | refine LeO.bind ?_ (fun _ => ?_)
set_option maxHeartbeats 8000000 in
set_option maxRecDepth 100000 in
theorem ref_Right.calls (k : Nat) (a0 : Int) (r : Bool) (w : World) (h : ref_Right.f k a0 = some r) :
    Calls Try.prog 10 #[.int .i64 a0] w fun e w' => e = .returned (.bool r) ∧ Drawn0 w w' := by
  have H : ((ref_parts.f k a0).bind fun bt103 => (some bt103.2.2)) = some r := h
  clear h
  replace H := Option.bind_eq_some_iff.mp H
  obtain ⟨⟨t103, t104, t105⟩, A20, H⟩ := H
  replace H : (some t105) = some r := H
  have A2 := Aside0.mk A20
  clear A20
  obtain rfl := Option.some.inj H
  go_enter Try.func10, Try.ntmps10
  go_wp2_with (first | ((with_reducible refine gate_callee (f := 19) rfl ?_); refine goesL_ (some 8) rfl rfl Try.func19 (by kernel_rfl) rfl #[.int .i64 a0] rfl (by (try simp only [List.map_toArray, List.map_cons, List.map_nil]); first | done | rfl | (simp only [List.length_drop, List.length_take]; rfl)) ?_; (with_reducible refine (ref_parts.calls k a0 t103 t104 t105 _ A2.out).mono ?_); rintro e w' ⟨rfl, ⟨nd, rfl⟩⟩; refine ⟨_, rfl, ?_⟩))
  go_ret
  exact ⟨by first | rfl | (simp; done) | (simp [*]; done), by repeat (first | exact Drawn0.refl _ | apply Drawn0.step)⟩

/-! ### ref_At: function 11 -/
def ref_At.f (k : Nat) (a0 : Int) : Option (Int) := (ref_parts.f k a0).bind fun bt106 => (some bt106.2.1)
theorem ref_At.mono : ∀ a0 k, LeO (ref_At.f k a0) (ref_At.f (k + 1) a0) := by
  intro a0 k
  unfold ref_At.f
  repeat' first
      | (with_reducible exact ref_parts.mono _ _)
      | (with_reducible exact LeO.refl _)
      | (with_reducible exact LeO.none _)
      | (with_reducible refine LeO.ite ?_ ?_)
      | (with_reducible refine LeO.bind ?_ (fun _ => ?_))
      | exact ref_parts.mono _ _
      | exact LeO.none _
      | refine LeO.ite ?_ ?_
      | refine LeO.bind ?_ (fun _ => ?_)
set_option maxHeartbeats 8000000 in
set_option maxRecDepth 100000 in
theorem ref_At.calls (k : Nat) (a0 : Int) (r : Int) (w : World) (h : ref_At.f k a0 = some r) :
    Calls Try.prog 11 #[.int .i64 a0] w fun e w' => e = .returned (.int .i64 r) ∧ Drawn0 w w' := by
  have H : ((ref_parts.f k a0).bind fun bt106 => (some bt106.2.1)) = some r := h
  clear h
  replace H := Option.bind_eq_some_iff.mp H
  obtain ⟨⟨t106, t107, t108⟩, A20, H⟩ := H
  replace H : (some t107) = some r := H
  have A2 := Aside0.mk A20
  clear A20
  obtain rfl := Option.some.inj H
  go_enter Try.func11, Try.ntmps11
  go_wp2_with (first | ((with_reducible refine gate_callee (f := 19) rfl ?_); refine goesL_ (some 8) rfl rfl Try.func19 (by kernel_rfl) rfl #[.int .i64 a0] rfl (by (try simp only [List.map_toArray, List.map_cons, List.map_nil]); first | done | rfl | (simp only [List.length_drop, List.length_take]; rfl)) ?_; (with_reducible refine (ref_parts.calls k a0 t106 t107 t108 _ A2.out).mono ?_); rintro e w' ⟨rfl, ⟨nd, rfl⟩⟩; refine ⟨_, rfl, ?_⟩))
  go_ret
  exact ⟨by first | rfl | (simp; done) | (simp [*]; done), by repeat (first | exact Drawn0.refl _ | apply Drawn0.step)⟩

/-! ### ref_Kind: function 14 -/
def ref_Kind.f (k : Nat) (a0 : Int) : Option (Int) := (ref_parts.f k a0).bind fun bt109 => (some bt109.1)
theorem ref_Kind.mono : ∀ a0 k, LeO (ref_Kind.f k a0) (ref_Kind.f (k + 1) a0) := by
  intro a0 k
  unfold ref_Kind.f
  repeat' first
      | (with_reducible exact ref_parts.mono _ _)
      | (with_reducible exact LeO.refl _)
      | (with_reducible exact LeO.none _)
      | (with_reducible refine LeO.ite ?_ ?_)
      | (with_reducible refine LeO.bind ?_ (fun _ => ?_))
      | exact ref_parts.mono _ _
      | exact LeO.none _
      | refine LeO.ite ?_ ?_
      | refine LeO.bind ?_ (fun _ => ?_)
set_option maxHeartbeats 8000000 in
set_option maxRecDepth 100000 in
theorem ref_Kind.calls (k : Nat) (a0 : Int) (r : Int) (w : World) (h : ref_Kind.f k a0 = some r) :
    Calls Try.prog 14 #[.int .i64 a0] w fun e w' => e = .returned (.int .i64 r) ∧ Drawn0 w w' := by
  have H : ((ref_parts.f k a0).bind fun bt109 => (some bt109.1)) = some r := h
  clear h
  replace H := Option.bind_eq_some_iff.mp H
  obtain ⟨⟨t109, t110, t111⟩, A20, H⟩ := H
  replace H : (some t109) = some r := H
  have A2 := Aside0.mk A20
  clear A20
  obtain rfl := Option.some.inj H
  go_enter Try.func14, Try.ntmps14
  go_wp2_with (first | ((with_reducible refine gate_callee (f := 19) rfl ?_); refine goesL_ (some 8) rfl rfl Try.func19 (by kernel_rfl) rfl #[.int .i64 a0] rfl (by (try simp only [List.map_toArray, List.map_cons, List.map_nil]); first | done | rfl | (simp only [List.length_drop, List.length_take]; rfl)) ?_; (with_reducible refine (ref_parts.calls k a0 t109 t110 t111 _ A2.out).mono ?_); rintro e w' ⟨rfl, ⟨nd, rfl⟩⟩; refine ⟨_, rfl, ?_⟩))
  go_ret
  exact ⟨by first | rfl | (simp; done) | (simp [*]; done), by repeat (first | exact Drawn0.refl _ | apply Drawn0.step)⟩

/-! ### ordinatelaw1_known: function 8 -/
def ordinatelaw1_known.f (k : Nat)  : Option (Bool) := (ref_Of.f 2 3).bind fun t112 => (if t112 = 26 then ((ref_Kind.f k 26).bind fun t113 => (if t113 = 2 then ((ref_At.f k 26).bind fun t114 => (if t114 = 3 then ((ref_Right.f k 26).bind fun t115 => (if t115 = true then ((ref_Of.f 0 3).bind fun t116 => (if t116 = 0 then ((ref_Of.f 2 0).bind fun t117 => (if t117 = 0 then ((ref_Right.f k 8).bind fun t118 => (if t118 = true then (some false) else ((ref_Right.f k 30).bind fun t119 => (if t119 = true then (some false) else ((ref_Kind.f k (-6)).bind fun t120 => (some (t120 == 0))))))) else (some false))) else (some false))) else (some false))) else (some false))) else (some false))) else (some false))
theorem ordinatelaw1_known.mono : ∀ k, LeO (ordinatelaw1_known.f k ) (ordinatelaw1_known.f (k + 1) ) := by
  intro  k
  unfold ordinatelaw1_known.f
  repeat' first
      | (with_reducible exact ref_At.mono _ _)
      | (with_reducible exact ref_Kind.mono _ _)
      | (with_reducible exact ref_Right.mono _ _)
      | (with_reducible exact LeO.refl _)
      | (with_reducible exact LeO.none _)
      | (with_reducible refine LeO.ite ?_ ?_)
      | (with_reducible refine LeO.bind ?_ (fun _ => ?_))
      | exact ref_At.mono _ _
      | exact ref_Kind.mono _ _
      | exact ref_Right.mono _ _
      | exact LeO.none _
      | refine LeO.ite ?_ ?_
      | refine LeO.bind ?_ (fun _ => ?_)
set_option maxHeartbeats 8000000 in
set_option maxRecDepth 100000 in
theorem ordinatelaw1_known.calls (k : Nat)  (r : Bool) (w : World) (h : ordinatelaw1_known.f k  = some r) :
    Calls Try.prog 8 #[] w fun e w' => e = .returned (.bool r) ∧ Drawn0 w w' := by
  have H : ((ref_Of.f 2 3).bind fun t112 => (if t112 = 26 then ((ref_Kind.f k 26).bind fun t113 => (if t113 = 2 then ((ref_At.f k 26).bind fun t114 => (if t114 = 3 then ((ref_Right.f k 26).bind fun t115 => (if t115 = true then ((ref_Of.f 0 3).bind fun t116 => (if t116 = 0 then ((ref_Of.f 2 0).bind fun t117 => (if t117 = 0 then ((ref_Right.f k 8).bind fun t118 => (if t118 = true then (some false) else ((ref_Right.f k 30).bind fun t119 => (if t119 = true then (some false) else ((ref_Kind.f k (-6)).bind fun t120 => (some (t120 == 0))))))) else (some false))) else (some false))) else (some false))) else (some false))) else (some false))) else (some false))) = some r := h
  clear h
  replace H := Option.bind_eq_some_iff.mp H
  obtain ⟨t112, A10, H⟩ := H
  replace H : (if t112 = 26 then ((ref_Kind.f k 26).bind fun t113 => (if t113 = 2 then ((ref_At.f k 26).bind fun t114 => (if t114 = 3 then ((ref_Right.f k 26).bind fun t115 => (if t115 = true then ((ref_Of.f 0 3).bind fun t116 => (if t116 = 0 then ((ref_Of.f 2 0).bind fun t117 => (if t117 = 0 then ((ref_Right.f k 8).bind fun t118 => (if t118 = true then (some false) else ((ref_Right.f k 30).bind fun t119 => (if t119 = true then (some false) else ((ref_Kind.f k (-6)).bind fun t120 => (some (t120 == 0))))))) else (some false))) else (some false))) else (some false))) else (some false))) else (some false))) else (some false)) = some r := H
  have A1 := Aside0.mk A10
  clear A10
  by_cases c2 : t112 = 26
  · rw [if_pos c2] at H
    have c2b0 : (t112 == 26) = true := beq_iff_eq.mpr c2
    have c2b1 : (t112 != 26) = false := bne_eq_false_iff_eq.mpr c2
    clear c2
    replace H := Option.bind_eq_some_iff.mp H
    obtain ⟨t113, A30, H⟩ := H
    replace H : (if t113 = 2 then ((ref_At.f k 26).bind fun t114 => (if t114 = 3 then ((ref_Right.f k 26).bind fun t115 => (if t115 = true then ((ref_Of.f 0 3).bind fun t116 => (if t116 = 0 then ((ref_Of.f 2 0).bind fun t117 => (if t117 = 0 then ((ref_Right.f k 8).bind fun t118 => (if t118 = true then (some false) else ((ref_Right.f k 30).bind fun t119 => (if t119 = true then (some false) else ((ref_Kind.f k (-6)).bind fun t120 => (some (t120 == 0))))))) else (some false))) else (some false))) else (some false))) else (some false))) else (some false)) = some r := H
    have A3 := Aside0.mk A30
    clear A30
    by_cases c4 : t113 = 2
    · rw [if_pos c4] at H
      have c4b0 : (t113 == 2) = true := beq_iff_eq.mpr c4
      have c4b1 : (t113 != 2) = false := bne_eq_false_iff_eq.mpr c4
      clear c4
      replace H := Option.bind_eq_some_iff.mp H
      obtain ⟨t114, A50, H⟩ := H
      replace H : (if t114 = 3 then ((ref_Right.f k 26).bind fun t115 => (if t115 = true then ((ref_Of.f 0 3).bind fun t116 => (if t116 = 0 then ((ref_Of.f 2 0).bind fun t117 => (if t117 = 0 then ((ref_Right.f k 8).bind fun t118 => (if t118 = true then (some false) else ((ref_Right.f k 30).bind fun t119 => (if t119 = true then (some false) else ((ref_Kind.f k (-6)).bind fun t120 => (some (t120 == 0))))))) else (some false))) else (some false))) else (some false))) else (some false)) = some r := H
      have A5 := Aside0.mk A50
      clear A50
      by_cases c6 : t114 = 3
      · rw [if_pos c6] at H
        have c6b0 : (t114 == 3) = true := beq_iff_eq.mpr c6
        have c6b1 : (t114 != 3) = false := bne_eq_false_iff_eq.mpr c6
        clear c6
        replace H := Option.bind_eq_some_iff.mp H
        obtain ⟨t115, A70, H⟩ := H
        replace H : (if t115 = true then ((ref_Of.f 0 3).bind fun t116 => (if t116 = 0 then ((ref_Of.f 2 0).bind fun t117 => (if t117 = 0 then ((ref_Right.f k 8).bind fun t118 => (if t118 = true then (some false) else ((ref_Right.f k 30).bind fun t119 => (if t119 = true then (some false) else ((ref_Kind.f k (-6)).bind fun t120 => (some (t120 == 0))))))) else (some false))) else (some false))) else (some false)) = some r := H
        have A7 := Aside0.mk A70
        clear A70
        by_cases c8 : t115 = true
        · subst c8
          have H1 : ((ref_Of.f 0 3).bind fun t116 => (if t116 = 0 then ((ref_Of.f 2 0).bind fun t117 => (if t117 = 0 then ((ref_Right.f k 8).bind fun t118 => (if t118 = true then (some false) else ((ref_Right.f k 30).bind fun t119 => (if t119 = true then (some false) else ((ref_Kind.f k (-6)).bind fun t120 => (some (t120 == 0))))))) else (some false))) else (some false))) = some r := by rw [if_pos rfl] at H; exact H
          clear H
          have H := H1
          clear H1
          replace H := Option.bind_eq_some_iff.mp H
          obtain ⟨t116, A90, H⟩ := H
          replace H : (if t116 = 0 then ((ref_Of.f 2 0).bind fun t117 => (if t117 = 0 then ((ref_Right.f k 8).bind fun t118 => (if t118 = true then (some false) else ((ref_Right.f k 30).bind fun t119 => (if t119 = true then (some false) else ((ref_Kind.f k (-6)).bind fun t120 => (some (t120 == 0))))))) else (some false))) else (some false)) = some r := H
          have A9 := Aside0.mk A90
          clear A90
          by_cases c10 : t116 = 0
          · rw [if_pos c10] at H
            have c10b0 : (t116 == 0) = true := beq_iff_eq.mpr c10
            have c10b1 : (t116 != 0) = false := bne_eq_false_iff_eq.mpr c10
            clear c10
            replace H := Option.bind_eq_some_iff.mp H
            obtain ⟨t117, A110, H⟩ := H
            replace H : (if t117 = 0 then ((ref_Right.f k 8).bind fun t118 => (if t118 = true then (some false) else ((ref_Right.f k 30).bind fun t119 => (if t119 = true then (some false) else ((ref_Kind.f k (-6)).bind fun t120 => (some (t120 == 0))))))) else (some false)) = some r := H
            have A11 := Aside0.mk A110
            clear A110
            by_cases c12 : t117 = 0
            · rw [if_pos c12] at H
              have c12b0 : (t117 == 0) = true := beq_iff_eq.mpr c12
              have c12b1 : (t117 != 0) = false := bne_eq_false_iff_eq.mpr c12
              clear c12
              replace H := Option.bind_eq_some_iff.mp H
              obtain ⟨t118, A130, H⟩ := H
              replace H : (if t118 = true then (some false) else ((ref_Right.f k 30).bind fun t119 => (if t119 = true then (some false) else ((ref_Kind.f k (-6)).bind fun t120 => (some (t120 == 0)))))) = some r := H
              have A13 := Aside0.mk A130
              clear A130
              by_cases c14 : t118 = true
              · subst c14
                have H1 : (some false) = some r := by rw [if_pos rfl] at H; exact H
                clear H
                have H := H1
                clear H1
                obtain rfl := Option.some.inj H
                go_enter Try.func8, Try.ntmps8
                go_wp2_with (first | ((with_reducible refine gate_callee (f := 9) rfl ?_); refine goesL_ (some 1) rfl rfl Try.func9 (by kernel_rfl) rfl #[.int .i64 2, .int .i64 3] rfl (by (try simp only [List.map_toArray, List.map_cons, List.map_nil]); first | done | rfl | (simp only [List.length_drop, List.length_take]; rfl)) ?_; (with_reducible refine (ref_Of.calls 2 3 t112 _ A1.out).mono ?_); rintro e w' ⟨rfl, ⟨nd, rfl⟩⟩; refine ⟨_, rfl, ?_⟩) | (go_at_call 14; (with_reducible refine (ref_Kind.calls k 26 t113 _ A3.out).mono ?_); rintro e w' ⟨rfl, ⟨nd, rfl⟩⟩) | (go_at_call 11; (with_reducible refine (ref_At.calls k 26 t114 _ A5.out).mono ?_); rintro e w' ⟨rfl, ⟨nd, rfl⟩⟩) | (go_at_call 10; (with_reducible refine (ref_Right.calls k 26 true _ A7.out).mono ?_); rintro e w' ⟨rfl, ⟨nd, rfl⟩⟩) | (go_at_call 9; (with_reducible refine (ref_Of.calls 0 3 t116 _ A9.out).mono ?_); rintro e w' ⟨rfl, ⟨nd, rfl⟩⟩) | (go_at_call 9; (with_reducible refine (ref_Of.calls 2 0 t117 _ A11.out).mono ?_); rintro e w' ⟨rfl, ⟨nd, rfl⟩⟩) | (go_at_call 10; (with_reducible refine (ref_Right.calls k 8 true _ A13.out).mono ?_); rintro e w' ⟨rfl, ⟨nd, rfl⟩⟩))
                go_ret
                exact ⟨by first | rfl | (simp; done) | (simp [*]; done), by repeat (first | exact Drawn0.refl _ | apply Drawn0.step)⟩
              · replace c14 := Bool.eq_false_iff.mpr c14
                subst c14
                have H1 : ((ref_Right.f k 30).bind fun t119 => (if t119 = true then (some false) else ((ref_Kind.f k (-6)).bind fun t120 => (some (t120 == 0))))) = some r := by rw [if_neg (show ¬ (false = true) by decide)] at H; exact H
                clear H
                have H := H1
                clear H1
                replace H := Option.bind_eq_some_iff.mp H
                obtain ⟨t119, A150, H⟩ := H
                replace H : (if t119 = true then (some false) else ((ref_Kind.f k (-6)).bind fun t120 => (some (t120 == 0)))) = some r := H
                have A15 := Aside0.mk A150
                clear A150
                by_cases c16 : t119 = true
                · subst c16
                  have H1 : (some false) = some r := by rw [if_pos rfl] at H; exact H
                  clear H
                  have H := H1
                  clear H1
                  obtain rfl := Option.some.inj H
                  go_enter Try.func8, Try.ntmps8
                  go_wp2_with (first | ((with_reducible refine gate_callee (f := 9) rfl ?_); refine goesL_ (some 1) rfl rfl Try.func9 (by kernel_rfl) rfl #[.int .i64 2, .int .i64 3] rfl (by (try simp only [List.map_toArray, List.map_cons, List.map_nil]); first | done | rfl | (simp only [List.length_drop, List.length_take]; rfl)) ?_; (with_reducible refine (ref_Of.calls 2 3 t112 _ A1.out).mono ?_); rintro e w' ⟨rfl, ⟨nd, rfl⟩⟩; refine ⟨_, rfl, ?_⟩) | (go_at_call 14; (with_reducible refine (ref_Kind.calls k 26 t113 _ A3.out).mono ?_); rintro e w' ⟨rfl, ⟨nd, rfl⟩⟩) | (go_at_call 11; (with_reducible refine (ref_At.calls k 26 t114 _ A5.out).mono ?_); rintro e w' ⟨rfl, ⟨nd, rfl⟩⟩) | (go_at_call 10; (with_reducible refine (ref_Right.calls k 26 true _ A7.out).mono ?_); rintro e w' ⟨rfl, ⟨nd, rfl⟩⟩) | (go_at_call 9; (with_reducible refine (ref_Of.calls 0 3 t116 _ A9.out).mono ?_); rintro e w' ⟨rfl, ⟨nd, rfl⟩⟩) | (go_at_call 9; (with_reducible refine (ref_Of.calls 2 0 t117 _ A11.out).mono ?_); rintro e w' ⟨rfl, ⟨nd, rfl⟩⟩) | (go_at_call 10; (with_reducible refine (ref_Right.calls k 8 false _ A13.out).mono ?_); rintro e w' ⟨rfl, ⟨nd, rfl⟩⟩) | (go_at_call 10; (with_reducible refine (ref_Right.calls k 30 true _ A15.out).mono ?_); rintro e w' ⟨rfl, ⟨nd, rfl⟩⟩))
                  go_ret
                  exact ⟨by first | rfl | (simp; done) | (simp [*]; done), by repeat (first | exact Drawn0.refl _ | apply Drawn0.step)⟩
                · replace c16 := Bool.eq_false_iff.mpr c16
                  subst c16
                  have H1 : ((ref_Kind.f k (-6)).bind fun t120 => (some (t120 == 0))) = some r := by rw [if_neg (show ¬ (false = true) by decide)] at H; exact H
                  clear H
                  have H := H1
                  clear H1
                  replace H := Option.bind_eq_some_iff.mp H
                  obtain ⟨t120, A170, H⟩ := H
                  replace H : (some (t120 == 0)) = some r := H
                  have A17 := Aside0.mk A170
                  clear A170
                  obtain rfl := Option.some.inj H
                  go_enter Try.func8, Try.ntmps8
                  go_wp2_with (first | ((with_reducible refine gate_callee (f := 9) rfl ?_); refine goesL_ (some 1) rfl rfl Try.func9 (by kernel_rfl) rfl #[.int .i64 2, .int .i64 3] rfl (by (try simp only [List.map_toArray, List.map_cons, List.map_nil]); first | done | rfl | (simp only [List.length_drop, List.length_take]; rfl)) ?_; (with_reducible refine (ref_Of.calls 2 3 t112 _ A1.out).mono ?_); rintro e w' ⟨rfl, ⟨nd, rfl⟩⟩; refine ⟨_, rfl, ?_⟩) | (go_at_call 14; (with_reducible refine (ref_Kind.calls k 26 t113 _ A3.out).mono ?_); rintro e w' ⟨rfl, ⟨nd, rfl⟩⟩) | (go_at_call 11; (with_reducible refine (ref_At.calls k 26 t114 _ A5.out).mono ?_); rintro e w' ⟨rfl, ⟨nd, rfl⟩⟩) | (go_at_call 10; (with_reducible refine (ref_Right.calls k 26 true _ A7.out).mono ?_); rintro e w' ⟨rfl, ⟨nd, rfl⟩⟩) | (go_at_call 9; (with_reducible refine (ref_Of.calls 0 3 t116 _ A9.out).mono ?_); rintro e w' ⟨rfl, ⟨nd, rfl⟩⟩) | (go_at_call 9; (with_reducible refine (ref_Of.calls 2 0 t117 _ A11.out).mono ?_); rintro e w' ⟨rfl, ⟨nd, rfl⟩⟩) | (go_at_call 10; (with_reducible refine (ref_Right.calls k 8 false _ A13.out).mono ?_); rintro e w' ⟨rfl, ⟨nd, rfl⟩⟩) | (go_at_call 10; (with_reducible refine (ref_Right.calls k 30 false _ A15.out).mono ?_); rintro e w' ⟨rfl, ⟨nd, rfl⟩⟩) | (go_at_call 14; (with_reducible refine (ref_Kind.calls k (-6) t120 _ A17.out).mono ?_); rintro e w' ⟨rfl, ⟨nd, rfl⟩⟩))
                  go_ret
                  exact ⟨by first | rfl | (simp; done) | (simp [*]; done), by repeat (first | exact Drawn0.refl _ | apply Drawn0.step)⟩
            · rw [if_neg c12] at H
              have c12b0 : (t117 == 0) = false := beq_eq_false_iff_ne.mpr c12
              have c12b1 : (t117 != 0) = true := bne_iff_ne.mpr c12
              obtain rfl := Option.some.inj H
              go_enter Try.func8, Try.ntmps8
              go_wp2_with (first | ((with_reducible refine gate_callee (f := 9) rfl ?_); refine goesL_ (some 1) rfl rfl Try.func9 (by kernel_rfl) rfl #[.int .i64 2, .int .i64 3] rfl (by (try simp only [List.map_toArray, List.map_cons, List.map_nil]); first | done | rfl | (simp only [List.length_drop, List.length_take]; rfl)) ?_; (with_reducible refine (ref_Of.calls 2 3 t112 _ A1.out).mono ?_); rintro e w' ⟨rfl, ⟨nd, rfl⟩⟩; refine ⟨_, rfl, ?_⟩) | (go_at_call 14; (with_reducible refine (ref_Kind.calls k 26 t113 _ A3.out).mono ?_); rintro e w' ⟨rfl, ⟨nd, rfl⟩⟩) | (go_at_call 11; (with_reducible refine (ref_At.calls k 26 t114 _ A5.out).mono ?_); rintro e w' ⟨rfl, ⟨nd, rfl⟩⟩) | (go_at_call 10; (with_reducible refine (ref_Right.calls k 26 true _ A7.out).mono ?_); rintro e w' ⟨rfl, ⟨nd, rfl⟩⟩) | (go_at_call 9; (with_reducible refine (ref_Of.calls 0 3 t116 _ A9.out).mono ?_); rintro e w' ⟨rfl, ⟨nd, rfl⟩⟩) | (go_at_call 9; (with_reducible refine (ref_Of.calls 2 0 t117 _ A11.out).mono ?_); rintro e w' ⟨rfl, ⟨nd, rfl⟩⟩))
              go_ret
              exact ⟨by first | rfl | (simp; done) | (simp [*]; done), by repeat (first | exact Drawn0.refl _ | apply Drawn0.step)⟩
          · rw [if_neg c10] at H
            have c10b0 : (t116 == 0) = false := beq_eq_false_iff_ne.mpr c10
            have c10b1 : (t116 != 0) = true := bne_iff_ne.mpr c10
            obtain rfl := Option.some.inj H
            go_enter Try.func8, Try.ntmps8
            go_wp2_with (first | ((with_reducible refine gate_callee (f := 9) rfl ?_); refine goesL_ (some 1) rfl rfl Try.func9 (by kernel_rfl) rfl #[.int .i64 2, .int .i64 3] rfl (by (try simp only [List.map_toArray, List.map_cons, List.map_nil]); first | done | rfl | (simp only [List.length_drop, List.length_take]; rfl)) ?_; (with_reducible refine (ref_Of.calls 2 3 t112 _ A1.out).mono ?_); rintro e w' ⟨rfl, ⟨nd, rfl⟩⟩; refine ⟨_, rfl, ?_⟩) | (go_at_call 14; (with_reducible refine (ref_Kind.calls k 26 t113 _ A3.out).mono ?_); rintro e w' ⟨rfl, ⟨nd, rfl⟩⟩) | (go_at_call 11; (with_reducible refine (ref_At.calls k 26 t114 _ A5.out).mono ?_); rintro e w' ⟨rfl, ⟨nd, rfl⟩⟩) | (go_at_call 10; (with_reducible refine (ref_Right.calls k 26 true _ A7.out).mono ?_); rintro e w' ⟨rfl, ⟨nd, rfl⟩⟩) | (go_at_call 9; (with_reducible refine (ref_Of.calls 0 3 t116 _ A9.out).mono ?_); rintro e w' ⟨rfl, ⟨nd, rfl⟩⟩))
            go_ret
            exact ⟨by first | rfl | (simp; done) | (simp [*]; done), by repeat (first | exact Drawn0.refl _ | apply Drawn0.step)⟩
        · replace c8 := Bool.eq_false_iff.mpr c8
          subst c8
          have H1 : (some false) = some r := by rw [if_neg (show ¬ (false = true) by decide)] at H; exact H
          clear H
          have H := H1
          clear H1
          obtain rfl := Option.some.inj H
          go_enter Try.func8, Try.ntmps8
          go_wp2_with (first | ((with_reducible refine gate_callee (f := 9) rfl ?_); refine goesL_ (some 1) rfl rfl Try.func9 (by kernel_rfl) rfl #[.int .i64 2, .int .i64 3] rfl (by (try simp only [List.map_toArray, List.map_cons, List.map_nil]); first | done | rfl | (simp only [List.length_drop, List.length_take]; rfl)) ?_; (with_reducible refine (ref_Of.calls 2 3 t112 _ A1.out).mono ?_); rintro e w' ⟨rfl, ⟨nd, rfl⟩⟩; refine ⟨_, rfl, ?_⟩) | (go_at_call 14; (with_reducible refine (ref_Kind.calls k 26 t113 _ A3.out).mono ?_); rintro e w' ⟨rfl, ⟨nd, rfl⟩⟩) | (go_at_call 11; (with_reducible refine (ref_At.calls k 26 t114 _ A5.out).mono ?_); rintro e w' ⟨rfl, ⟨nd, rfl⟩⟩) | (go_at_call 10; (with_reducible refine (ref_Right.calls k 26 false _ A7.out).mono ?_); rintro e w' ⟨rfl, ⟨nd, rfl⟩⟩))
          go_ret
          exact ⟨by first | rfl | (simp; done) | (simp [*]; done), by repeat (first | exact Drawn0.refl _ | apply Drawn0.step)⟩
      · rw [if_neg c6] at H
        have c6b0 : (t114 == 3) = false := beq_eq_false_iff_ne.mpr c6
        have c6b1 : (t114 != 3) = true := bne_iff_ne.mpr c6
        obtain rfl := Option.some.inj H
        go_enter Try.func8, Try.ntmps8
        go_wp2_with (first | ((with_reducible refine gate_callee (f := 9) rfl ?_); refine goesL_ (some 1) rfl rfl Try.func9 (by kernel_rfl) rfl #[.int .i64 2, .int .i64 3] rfl (by (try simp only [List.map_toArray, List.map_cons, List.map_nil]); first | done | rfl | (simp only [List.length_drop, List.length_take]; rfl)) ?_; (with_reducible refine (ref_Of.calls 2 3 t112 _ A1.out).mono ?_); rintro e w' ⟨rfl, ⟨nd, rfl⟩⟩; refine ⟨_, rfl, ?_⟩) | (go_at_call 14; (with_reducible refine (ref_Kind.calls k 26 t113 _ A3.out).mono ?_); rintro e w' ⟨rfl, ⟨nd, rfl⟩⟩) | (go_at_call 11; (with_reducible refine (ref_At.calls k 26 t114 _ A5.out).mono ?_); rintro e w' ⟨rfl, ⟨nd, rfl⟩⟩))
        go_ret
        exact ⟨by first | rfl | (simp; done) | (simp [*]; done), by repeat (first | exact Drawn0.refl _ | apply Drawn0.step)⟩
    · rw [if_neg c4] at H
      have c4b0 : (t113 == 2) = false := beq_eq_false_iff_ne.mpr c4
      have c4b1 : (t113 != 2) = true := bne_iff_ne.mpr c4
      obtain rfl := Option.some.inj H
      go_enter Try.func8, Try.ntmps8
      go_wp2_with (first | ((with_reducible refine gate_callee (f := 9) rfl ?_); refine goesL_ (some 1) rfl rfl Try.func9 (by kernel_rfl) rfl #[.int .i64 2, .int .i64 3] rfl (by (try simp only [List.map_toArray, List.map_cons, List.map_nil]); first | done | rfl | (simp only [List.length_drop, List.length_take]; rfl)) ?_; (with_reducible refine (ref_Of.calls 2 3 t112 _ A1.out).mono ?_); rintro e w' ⟨rfl, ⟨nd, rfl⟩⟩; refine ⟨_, rfl, ?_⟩) | (go_at_call 14; (with_reducible refine (ref_Kind.calls k 26 t113 _ A3.out).mono ?_); rintro e w' ⟨rfl, ⟨nd, rfl⟩⟩))
      go_ret
      exact ⟨by first | rfl | (simp; done) | (simp [*]; done), by repeat (first | exact Drawn0.refl _ | apply Drawn0.step)⟩
  · rw [if_neg c2] at H
    have c2b0 : (t112 == 26) = false := beq_eq_false_iff_ne.mpr c2
    have c2b1 : (t112 != 26) = true := bne_iff_ne.mpr c2
    obtain rfl := Option.some.inj H
    go_enter Try.func8, Try.ntmps8
    go_wp2_with (first | ((with_reducible refine gate_callee (f := 9) rfl ?_); refine goesL_ (some 1) rfl rfl Try.func9 (by kernel_rfl) rfl #[.int .i64 2, .int .i64 3] rfl (by (try simp only [List.map_toArray, List.map_cons, List.map_nil]); first | done | rfl | (simp only [List.length_drop, List.length_take]; rfl)) ?_; (with_reducible refine (ref_Of.calls 2 3 t112 _ A1.out).mono ?_); rintro e w' ⟨rfl, ⟨nd, rfl⟩⟩; refine ⟨_, rfl, ?_⟩))
    go_ret
    exact ⟨by first | rfl | (simp; done) | (simp [*]; done), by repeat (first | exact Drawn0.refl _ | apply Drawn0.step)⟩

/-! ### ordinateref1_Of: function 12 -/
def ordinateref1_Of.f (a0 : Int) (a1 : Int) : Option (Int) := if a0 < 1 then (some 0) else (if a0 > 5 then (some 0) else (if a1 < 1 then (some 0) else (if a1 > 65536 then (some 0) else (some (wrap64 ((wrap64 (8 * a1)) + a0))))))
set_option maxHeartbeats 8000000 in
set_option maxRecDepth 100000 in
theorem ordinateref1_Of.calls (a0 : Int) (a1 : Int) (r : Int) (w : World) (h : ordinateref1_Of.f a0 a1 = some r) :
    Calls Try.prog 12 #[.int .i64 a0, .int .i64 a1] w fun e w' => e = .returned (.int .i64 r) ∧ Drawn0 w w' := by
  have H : (if a0 < 1 then (some 0) else (if a0 > 5 then (some 0) else (if a1 < 1 then (some 0) else (if a1 > 65536 then (some 0) else (some (wrap64 ((wrap64 (8 * a1)) + a0))))))) = some r := h
  clear h
  by_cases c3 : a0 < 1
  · rw [if_pos c3] at H
    have c3b0 : decide (a0 < 1) = true := decide_eq_true c3
    clear c3
    obtain rfl := Option.some.inj H
    go_enter Try.func12, Try.ntmps12
    go_wp2
    go_ret
    exact ⟨by first | rfl | (simp; done) | (simp [*]; done), by repeat (first | exact Drawn0.refl _ | apply Drawn0.step)⟩
  · rw [if_neg c3] at H
    have c3b0 : decide (a0 < 1) = false := decide_eq_false c3
    clear c3
    by_cases c4 : a0 > 5
    · rw [if_pos c4] at H
      have c4b0 : decide (5 < a0) = true := decide_eq_true c4
      clear c4
      obtain rfl := Option.some.inj H
      go_enter Try.func12, Try.ntmps12
      go_wp2
      go_ret
      exact ⟨by first | rfl | (simp; done) | (simp [*]; done), by repeat (first | exact Drawn0.refl _ | apply Drawn0.step)⟩
    · rw [if_neg c4] at H
      have c4b0 : decide (5 < a0) = false := decide_eq_false c4
      clear c4
      by_cases c5 : a1 < 1
      · rw [if_pos c5] at H
        have c5b0 : decide (a1 < 1) = true := decide_eq_true c5
        clear c5
        obtain rfl := Option.some.inj H
        go_enter Try.func12, Try.ntmps12
        go_wp2
        go_ret
        exact ⟨by first | rfl | (simp; done) | (simp [*]; done), by repeat (first | exact Drawn0.refl _ | apply Drawn0.step)⟩
      · rw [if_neg c5] at H
        have c5b0 : decide (a1 < 1) = false := decide_eq_false c5
        clear c5
        by_cases c6 : a1 > 65536
        · rw [if_pos c6] at H
          have c6b0 : decide (65536 < a1) = true := decide_eq_true c6
          clear c6
          obtain rfl := Option.some.inj H
          go_enter Try.func12, Try.ntmps12
          go_wp2
          go_ret
          exact ⟨by first | rfl | (simp; done) | (simp [*]; done), by repeat (first | exact Drawn0.refl _ | apply Drawn0.step)⟩
        · rw [if_neg c6] at H
          have c6b0 : decide (65536 < a1) = false := decide_eq_false c6
          clear c6
          obtain rfl := Option.some.inj H
          go_enter Try.func12, Try.ntmps12
          go_wp2
          go_ret
          exact ⟨by first | rfl | (simp; done) | (simp [*]; done), by repeat (first | exact Drawn0.refl _ | apply Drawn0.step)⟩

/-! ### ordinateref1_Right: function 13 -/
def ordinateref1_Right.f (a0 : Int) : Option (Bool) := if a0 > 8 then (if (Int.tmod a0 8) ≥ 1 then (if (Int.tmod a0 8) ≤ 5 then (some (decide ((wrap64 (Int.tdiv a0 8)) ≤ 65536))) else (some false)) else (some false)) else (some false)
set_option maxHeartbeats 8000000 in
set_option maxRecDepth 100000 in
theorem ordinateref1_Right.calls (a0 : Int) (r : Bool) (w : World) (h : ordinateref1_Right.f a0 = some r) :
    Calls Try.prog 13 #[.int .i64 a0] w fun e w' => e = .returned (.bool r) ∧ Drawn0 w w' := by
  have H : (if a0 > 8 then (if (Int.tmod a0 8) ≥ 1 then (if (Int.tmod a0 8) ≤ 5 then (some (decide ((wrap64 (Int.tdiv a0 8)) ≤ 65536))) else (some false)) else (some false)) else (some false)) = some r := h
  clear h
  by_cases c2 : a0 > 8
  · rw [if_pos c2] at H
    have c2b0 : decide (8 < a0) = true := decide_eq_true c2
    clear c2
    by_cases c3 : (Int.tmod a0 8) ≥ 1
    · rw [if_pos c3] at H
      have c3b0 : decide (1 ≤ (Int.tmod a0 8)) = true := decide_eq_true c3
      clear c3
      by_cases c4 : (Int.tmod a0 8) ≤ 5
      · rw [if_pos c4] at H
        have c4b0 : decide ((Int.tmod a0 8) ≤ 5) = true := decide_eq_true c4
        clear c4
        obtain rfl := Option.some.inj H
        go_enter Try.func13, Try.ntmps13
        go_wp2
        go_ret
        exact ⟨by first | rfl | (simp; done) | (simp [*]; done), by repeat (first | exact Drawn0.refl _ | apply Drawn0.step)⟩
      · rw [if_neg c4] at H
        have c4b0 : decide ((Int.tmod a0 8) ≤ 5) = false := decide_eq_false c4
        clear c4
        obtain rfl := Option.some.inj H
        go_enter Try.func13, Try.ntmps13
        go_wp2
        go_ret
        exact ⟨by first | rfl | (simp; done) | (simp [*]; done), by repeat (first | exact Drawn0.refl _ | apply Drawn0.step)⟩
    · rw [if_neg c3] at H
      have c3b0 : decide (1 ≤ (Int.tmod a0 8)) = false := decide_eq_false c3
      clear c3
      obtain rfl := Option.some.inj H
      go_enter Try.func13, Try.ntmps13
      go_wp2
      go_ret
      exact ⟨by first | rfl | (simp; done) | (simp [*]; done), by repeat (first | exact Drawn0.refl _ | apply Drawn0.step)⟩
  · rw [if_neg c2] at H
    have c2b0 : decide (8 < a0) = false := decide_eq_false c2
    clear c2
    obtain rfl := Option.some.inj H
    go_enter Try.func13, Try.ntmps13
    go_wp2
    go_ret
    exact ⟨by first | rfl | (simp; done) | (simp [*]; done), by repeat (first | exact Drawn0.refl _ | apply Drawn0.step)⟩

/-! ### ordinateref1_Kind: function 15 -/
def ordinateref1_Kind.f (a0 : Int) : Option (Int) := (ordinateref1_Right.f a0).bind fun t121 => (if t121 = true then (some (Int.tmod a0 8)) else (some 0))
set_option maxHeartbeats 8000000 in
set_option maxRecDepth 100000 in
theorem ordinateref1_Kind.calls (a0 : Int) (r : Int) (w : World) (h : ordinateref1_Kind.f a0 = some r) :
    Calls Try.prog 15 #[.int .i64 a0] w fun e w' => e = .returned (.int .i64 r) ∧ Drawn0 w w' := by
  have H : ((ordinateref1_Right.f a0).bind fun t121 => (if t121 = true then (some (Int.tmod a0 8)) else (some 0))) = some r := h
  clear h
  replace H := Option.bind_eq_some_iff.mp H
  obtain ⟨t121, A20, H⟩ := H
  replace H : (if t121 = true then (some (Int.tmod a0 8)) else (some 0)) = some r := H
  have A2 := Aside0.mk A20
  clear A20
  by_cases c3 : t121 = true
  · subst c3
    have H1 : (some (Int.tmod a0 8)) = some r := by rw [if_pos rfl] at H; exact H
    clear H
    have H := H1
    clear H1
    obtain rfl := Option.some.inj H
    go_enter Try.func15, Try.ntmps15
    go_wp2_with (first | ((with_reducible refine gate_callee (f := 13) rfl ?_); refine goesL_ (some 4) rfl rfl Try.func13 (by kernel_rfl) rfl #[.int .i64 a0] rfl (by (try simp only [List.map_toArray, List.map_cons, List.map_nil]); first | done | rfl | (simp only [List.length_drop, List.length_take]; rfl)) ?_; (with_reducible refine (ordinateref1_Right.calls a0 true _ A2.out).mono ?_); rintro e w' ⟨rfl, ⟨nd, rfl⟩⟩; refine ⟨_, rfl, ?_⟩))
    go_ret
    exact ⟨by first | rfl | (simp; done) | (simp [*]; done), by repeat (first | exact Drawn0.refl _ | apply Drawn0.step)⟩
  · replace c3 := Bool.eq_false_iff.mpr c3
    subst c3
    have H1 : (some 0) = some r := by rw [if_neg (show ¬ (false = true) by decide)] at H; exact H
    clear H
    have H := H1
    clear H1
    obtain rfl := Option.some.inj H
    go_enter Try.func15, Try.ntmps15
    go_wp2_with (first | ((with_reducible refine gate_callee (f := 13) rfl ?_); refine goesL_ (some 4) rfl rfl Try.func13 (by kernel_rfl) rfl #[.int .i64 a0] rfl (by (try simp only [List.map_toArray, List.map_cons, List.map_nil]); first | done | rfl | (simp only [List.length_drop, List.length_take]; rfl)) ?_; (with_reducible refine (ordinateref1_Right.calls a0 false _ A2.out).mono ?_); rintro e w' ⟨rfl, ⟨nd, rfl⟩⟩; refine ⟨_, rfl, ?_⟩))
    go_ret
    exact ⟨by first | rfl | (simp; done) | (simp [*]; done), by repeat (first | exact Drawn0.refl _ | apply Drawn0.step)⟩

/-! ### ordinateref1_At: function 16 -/
def ordinateref1_At.f (a0 : Int) : Option (Int) := (ordinateref1_Right.f a0).bind fun t122 => (if t122 = true then (some (wrap64 (Int.tdiv a0 8))) else (some 0))
set_option maxHeartbeats 8000000 in
set_option maxRecDepth 100000 in
theorem ordinateref1_At.calls (a0 : Int) (r : Int) (w : World) (h : ordinateref1_At.f a0 = some r) :
    Calls Try.prog 16 #[.int .i64 a0] w fun e w' => e = .returned (.int .i64 r) ∧ Drawn0 w w' := by
  have H : ((ordinateref1_Right.f a0).bind fun t122 => (if t122 = true then (some (wrap64 (Int.tdiv a0 8))) else (some 0))) = some r := h
  clear h
  replace H := Option.bind_eq_some_iff.mp H
  obtain ⟨t122, A20, H⟩ := H
  replace H : (if t122 = true then (some (wrap64 (Int.tdiv a0 8))) else (some 0)) = some r := H
  have A2 := Aside0.mk A20
  clear A20
  by_cases c3 : t122 = true
  · subst c3
    have H1 : (some (wrap64 (Int.tdiv a0 8))) = some r := by rw [if_pos rfl] at H; exact H
    clear H
    have H := H1
    clear H1
    obtain rfl := Option.some.inj H
    go_enter Try.func16, Try.ntmps16
    go_wp2_with (first | ((with_reducible refine gate_callee (f := 13) rfl ?_); refine goesL_ (some 4) rfl rfl Try.func13 (by kernel_rfl) rfl #[.int .i64 a0] rfl (by (try simp only [List.map_toArray, List.map_cons, List.map_nil]); first | done | rfl | (simp only [List.length_drop, List.length_take]; rfl)) ?_; (with_reducible refine (ordinateref1_Right.calls a0 true _ A2.out).mono ?_); rintro e w' ⟨rfl, ⟨nd, rfl⟩⟩; refine ⟨_, rfl, ?_⟩))
    go_ret
    exact ⟨by first | rfl | (simp; done) | (simp [*]; done), by repeat (first | exact Drawn0.refl _ | apply Drawn0.step)⟩
  · replace c3 := Bool.eq_false_iff.mpr c3
    subst c3
    have H1 : (some 0) = some r := by rw [if_neg (show ¬ (false = true) by decide)] at H; exact H
    clear H
    have H := H1
    clear H1
    obtain rfl := Option.some.inj H
    go_enter Try.func16, Try.ntmps16
    go_wp2_with (first | ((with_reducible refine gate_callee (f := 13) rfl ?_); refine goesL_ (some 4) rfl rfl Try.func13 (by kernel_rfl) rfl #[.int .i64 a0] rfl (by (try simp only [List.map_toArray, List.map_cons, List.map_nil]); first | done | rfl | (simp only [List.length_drop, List.length_take]; rfl)) ?_; (with_reducible refine (ordinateref1_Right.calls a0 false _ A2.out).mono ?_); rintro e w' ⟨rfl, ⟨nd, rfl⟩⟩; refine ⟨_, rfl, ?_⟩))
    go_ret
    exact ⟨by first | rfl | (simp; done) | (simp [*]; done), by repeat (first | exact Drawn0.refl _ | apply Drawn0.step)⟩

/-! ### ordinatelaw1_RefTells: function 4 -/
def ordinatelaw1_RefTells.f (k : Nat) (a0 : Int) (a1 : Int) (a2 : Int) : Option (Bool) := (ordinatelaw1_known.f k).bind fun t123 => (if t123 = true then ((ref_Of.f a0 a1).bind fun t124 => ((ordinateref1_Of.f a0 a1).bind fun t125 => (if t124 = t125 then ((ref_Right.f k a2).bind fun t126 => ((ordinateref1_Right.f a2).bind fun t127 => (if (t126 == t127) = true then ((ref_Kind.f k a2).bind fun t128 => ((ordinateref1_Kind.f a2).bind fun t129 => (if t128 = t129 then ((ref_At.f k a2).bind fun t130 => ((ordinateref1_At.f a2).bind fun t131 => (some (t130 == t131)))) else (some false)))) else (some false)))) else (some false)))) else (some false))
theorem ordinatelaw1_RefTells.mono : ∀ a0 a1 a2 k, LeO (ordinatelaw1_RefTells.f k a0 a1 a2) (ordinatelaw1_RefTells.f (k + 1) a0 a1 a2) := by
  intro a0 a1 a2 k
  unfold ordinatelaw1_RefTells.f
  repeat' first
      | (with_reducible exact ordinatelaw1_known.mono _)
      | (with_reducible exact ref_At.mono _ _)
      | (with_reducible exact ref_Kind.mono _ _)
      | (with_reducible exact ref_Right.mono _ _)
      | (with_reducible exact LeO.refl _)
      | (with_reducible exact LeO.none _)
      | (with_reducible refine LeO.ite ?_ ?_)
      | (with_reducible refine LeO.bind ?_ (fun _ => ?_))
      | exact ordinatelaw1_known.mono _
      | exact ref_At.mono _ _
      | exact ref_Kind.mono _ _
      | exact ref_Right.mono _ _
      | exact LeO.none _
      | refine LeO.ite ?_ ?_
      | refine LeO.bind ?_ (fun _ => ?_)
set_option maxHeartbeats 8000000 in
set_option maxRecDepth 100000 in
theorem ordinatelaw1_RefTells.calls (k : Nat) (a0 : Int) (a1 : Int) (a2 : Int) (r : Bool) (w : World) (h : ordinatelaw1_RefTells.f k a0 a1 a2 = some r) :
    Calls Try.prog 4 #[.int .i64 a0, .int .i64 a1, .int .i64 a2] w fun e w' => e = .returned (.bool r) ∧ Drawn0 w w' := by
  have H : ((ordinatelaw1_known.f k).bind fun t123 => (if t123 = true then ((ref_Of.f a0 a1).bind fun t124 => ((ordinateref1_Of.f a0 a1).bind fun t125 => (if t124 = t125 then ((ref_Right.f k a2).bind fun t126 => ((ordinateref1_Right.f a2).bind fun t127 => (if (t126 == t127) = true then ((ref_Kind.f k a2).bind fun t128 => ((ordinateref1_Kind.f a2).bind fun t129 => (if t128 = t129 then ((ref_At.f k a2).bind fun t130 => ((ordinateref1_At.f a2).bind fun t131 => (some (t130 == t131)))) else (some false)))) else (some false)))) else (some false)))) else (some false))) = some r := h
  clear h
  replace H := Option.bind_eq_some_iff.mp H
  obtain ⟨t123, A40, H⟩ := H
  replace H : (if t123 = true then ((ref_Of.f a0 a1).bind fun t124 => ((ordinateref1_Of.f a0 a1).bind fun t125 => (if t124 = t125 then ((ref_Right.f k a2).bind fun t126 => ((ordinateref1_Right.f a2).bind fun t127 => (if (t126 == t127) = true then ((ref_Kind.f k a2).bind fun t128 => ((ordinateref1_Kind.f a2).bind fun t129 => (if t128 = t129 then ((ref_At.f k a2).bind fun t130 => ((ordinateref1_At.f a2).bind fun t131 => (some (t130 == t131)))) else (some false)))) else (some false)))) else (some false)))) else (some false)) = some r := H
  have A4 := Aside0.mk A40
  clear A40
  by_cases c5 : t123 = true
  · subst c5
    have H1 : ((ref_Of.f a0 a1).bind fun t124 => ((ordinateref1_Of.f a0 a1).bind fun t125 => (if t124 = t125 then ((ref_Right.f k a2).bind fun t126 => ((ordinateref1_Right.f a2).bind fun t127 => (if (t126 == t127) = true then ((ref_Kind.f k a2).bind fun t128 => ((ordinateref1_Kind.f a2).bind fun t129 => (if t128 = t129 then ((ref_At.f k a2).bind fun t130 => ((ordinateref1_At.f a2).bind fun t131 => (some (t130 == t131)))) else (some false)))) else (some false)))) else (some false)))) = some r := by rw [if_pos rfl] at H; exact H
    clear H
    have H := H1
    clear H1
    replace H := Option.bind_eq_some_iff.mp H
    obtain ⟨t124, A60, H⟩ := H
    replace H : ((ordinateref1_Of.f a0 a1).bind fun t125 => (if t124 = t125 then ((ref_Right.f k a2).bind fun t126 => ((ordinateref1_Right.f a2).bind fun t127 => (if (t126 == t127) = true then ((ref_Kind.f k a2).bind fun t128 => ((ordinateref1_Kind.f a2).bind fun t129 => (if t128 = t129 then ((ref_At.f k a2).bind fun t130 => ((ordinateref1_At.f a2).bind fun t131 => (some (t130 == t131)))) else (some false)))) else (some false)))) else (some false))) = some r := H
    have A6 := Aside0.mk A60
    clear A60
    replace H := Option.bind_eq_some_iff.mp H
    obtain ⟨t125, A70, H⟩ := H
    replace H : (if t124 = t125 then ((ref_Right.f k a2).bind fun t126 => ((ordinateref1_Right.f a2).bind fun t127 => (if (t126 == t127) = true then ((ref_Kind.f k a2).bind fun t128 => ((ordinateref1_Kind.f a2).bind fun t129 => (if t128 = t129 then ((ref_At.f k a2).bind fun t130 => ((ordinateref1_At.f a2).bind fun t131 => (some (t130 == t131)))) else (some false)))) else (some false)))) else (some false)) = some r := H
    have A7 := Aside0.mk A70
    clear A70
    by_cases c8 : t124 = t125
    · rw [if_pos c8] at H
      have c8b0 : (t124 == t125) = true := beq_iff_eq.mpr c8
      have c8b1 : (t124 != t125) = false := bne_eq_false_iff_eq.mpr c8
      clear c8
      replace H := Option.bind_eq_some_iff.mp H
      obtain ⟨t126, A90, H⟩ := H
      replace H : ((ordinateref1_Right.f a2).bind fun t127 => (if (t126 == t127) = true then ((ref_Kind.f k a2).bind fun t128 => ((ordinateref1_Kind.f a2).bind fun t129 => (if t128 = t129 then ((ref_At.f k a2).bind fun t130 => ((ordinateref1_At.f a2).bind fun t131 => (some (t130 == t131)))) else (some false)))) else (some false))) = some r := H
      have A9 := Aside0.mk A90
      clear A90
      replace H := Option.bind_eq_some_iff.mp H
      obtain ⟨t127, A100, H⟩ := H
      replace H : (if (t126 == t127) = true then ((ref_Kind.f k a2).bind fun t128 => ((ordinateref1_Kind.f a2).bind fun t129 => (if t128 = t129 then ((ref_At.f k a2).bind fun t130 => ((ordinateref1_At.f a2).bind fun t131 => (some (t130 == t131)))) else (some false)))) else (some false)) = some r := H
      have A10 := Aside0.mk A100
      clear A100
      by_cases c11 : (t126 == t127) = true
      · rw [if_pos c11] at H
        have c11b0 : (t126 == t127) = true := c11
        (try (have c11b1 : decide (t126 = t127) = true := by simpa using c11))
        (try (have c11b2 : (t126 == t127) = true := by simpa using c11))
        clear c11
        replace H := Option.bind_eq_some_iff.mp H
        obtain ⟨t128, A120, H⟩ := H
        replace H : ((ordinateref1_Kind.f a2).bind fun t129 => (if t128 = t129 then ((ref_At.f k a2).bind fun t130 => ((ordinateref1_At.f a2).bind fun t131 => (some (t130 == t131)))) else (some false))) = some r := H
        have A12 := Aside0.mk A120
        clear A120
        replace H := Option.bind_eq_some_iff.mp H
        obtain ⟨t129, A130, H⟩ := H
        replace H : (if t128 = t129 then ((ref_At.f k a2).bind fun t130 => ((ordinateref1_At.f a2).bind fun t131 => (some (t130 == t131)))) else (some false)) = some r := H
        have A13 := Aside0.mk A130
        clear A130
        by_cases c14 : t128 = t129
        · rw [if_pos c14] at H
          have c14b0 : (t128 == t129) = true := beq_iff_eq.mpr c14
          have c14b1 : (t128 != t129) = false := bne_eq_false_iff_eq.mpr c14
          clear c14
          replace H := Option.bind_eq_some_iff.mp H
          obtain ⟨t130, A150, H⟩ := H
          replace H : ((ordinateref1_At.f a2).bind fun t131 => (some (t130 == t131))) = some r := H
          have A15 := Aside0.mk A150
          clear A150
          replace H := Option.bind_eq_some_iff.mp H
          obtain ⟨t131, A160, H⟩ := H
          replace H : (some (t130 == t131)) = some r := H
          have A16 := Aside0.mk A160
          clear A160
          obtain rfl := Option.some.inj H
          go_enter Try.func4, Try.ntmps4
          go_wp2_with (first | ((with_reducible refine gate_callee (f := 8) rfl ?_); refine goesL_ (some 7) rfl rfl Try.func8 (by kernel_rfl) rfl #[] rfl (by (try simp only [List.map_toArray, List.map_cons, List.map_nil]); first | done | rfl | (simp only [List.length_drop, List.length_take]; rfl)) ?_; (with_reducible refine (ordinatelaw1_known.calls k  true _ A4.out).mono ?_); rintro e w' ⟨rfl, ⟨nd, rfl⟩⟩; refine ⟨_, rfl, ?_⟩) | (go_at_call 9; (with_reducible refine (ref_Of.calls a0 a1 t124 _ A6.out).mono ?_); rintro e w' ⟨rfl, ⟨nd, rfl⟩⟩) | (go_at_call 12; (with_reducible refine (ordinateref1_Of.calls a0 a1 t125 _ A7.out).mono ?_); rintro e w' ⟨rfl, ⟨nd, rfl⟩⟩) | (go_at_call 10; (with_reducible refine (ref_Right.calls k a2 t126 _ A9.out).mono ?_); rintro e w' ⟨rfl, ⟨nd, rfl⟩⟩) | (go_at_call 13; (with_reducible refine (ordinateref1_Right.calls a2 t127 _ A10.out).mono ?_); rintro e w' ⟨rfl, ⟨nd, rfl⟩⟩) | (go_at_call 14; (with_reducible refine (ref_Kind.calls k a2 t128 _ A12.out).mono ?_); rintro e w' ⟨rfl, ⟨nd, rfl⟩⟩) | (go_at_call 15; (with_reducible refine (ordinateref1_Kind.calls a2 t129 _ A13.out).mono ?_); rintro e w' ⟨rfl, ⟨nd, rfl⟩⟩) | (go_at_call 11; (with_reducible refine (ref_At.calls k a2 t130 _ A15.out).mono ?_); rintro e w' ⟨rfl, ⟨nd, rfl⟩⟩) | (go_at_call 16; (with_reducible refine (ordinateref1_At.calls a2 t131 _ A16.out).mono ?_); rintro e w' ⟨rfl, ⟨nd, rfl⟩⟩))
          go_ret
          exact ⟨by first | rfl | (simp; done) | (simp [*]; done), by repeat (first | exact Drawn0.refl _ | apply Drawn0.step)⟩
        · rw [if_neg c14] at H
          have c14b0 : (t128 == t129) = false := beq_eq_false_iff_ne.mpr c14
          have c14b1 : (t128 != t129) = true := bne_iff_ne.mpr c14
          obtain rfl := Option.some.inj H
          go_enter Try.func4, Try.ntmps4
          go_wp2_with (first | ((with_reducible refine gate_callee (f := 8) rfl ?_); refine goesL_ (some 7) rfl rfl Try.func8 (by kernel_rfl) rfl #[] rfl (by (try simp only [List.map_toArray, List.map_cons, List.map_nil]); first | done | rfl | (simp only [List.length_drop, List.length_take]; rfl)) ?_; (with_reducible refine (ordinatelaw1_known.calls k  true _ A4.out).mono ?_); rintro e w' ⟨rfl, ⟨nd, rfl⟩⟩; refine ⟨_, rfl, ?_⟩) | (go_at_call 9; (with_reducible refine (ref_Of.calls a0 a1 t124 _ A6.out).mono ?_); rintro e w' ⟨rfl, ⟨nd, rfl⟩⟩) | (go_at_call 12; (with_reducible refine (ordinateref1_Of.calls a0 a1 t125 _ A7.out).mono ?_); rintro e w' ⟨rfl, ⟨nd, rfl⟩⟩) | (go_at_call 10; (with_reducible refine (ref_Right.calls k a2 t126 _ A9.out).mono ?_); rintro e w' ⟨rfl, ⟨nd, rfl⟩⟩) | (go_at_call 13; (with_reducible refine (ordinateref1_Right.calls a2 t127 _ A10.out).mono ?_); rintro e w' ⟨rfl, ⟨nd, rfl⟩⟩) | (go_at_call 14; (with_reducible refine (ref_Kind.calls k a2 t128 _ A12.out).mono ?_); rintro e w' ⟨rfl, ⟨nd, rfl⟩⟩) | (go_at_call 15; (with_reducible refine (ordinateref1_Kind.calls a2 t129 _ A13.out).mono ?_); rintro e w' ⟨rfl, ⟨nd, rfl⟩⟩))
          go_ret
          exact ⟨by first | rfl | (simp; done) | (simp [*]; done), by repeat (first | exact Drawn0.refl _ | apply Drawn0.step)⟩
      · rw [if_neg c11] at H
        have c11b0 : (t126 == t127) = false := by simpa using c11
        (try (have c11b1 : decide (t126 = t127) = false := by simpa using c11))
        (try (have c11b2 : (t126 == t127) = false := by simpa using c11))
        (try (have c11b3 : ¬ (t126 = t127) := by simpa using c11))
        clear c11
        obtain rfl := Option.some.inj H
        go_enter Try.func4, Try.ntmps4
        go_wp2_with (first | ((with_reducible refine gate_callee (f := 8) rfl ?_); refine goesL_ (some 7) rfl rfl Try.func8 (by kernel_rfl) rfl #[] rfl (by (try simp only [List.map_toArray, List.map_cons, List.map_nil]); first | done | rfl | (simp only [List.length_drop, List.length_take]; rfl)) ?_; (with_reducible refine (ordinatelaw1_known.calls k  true _ A4.out).mono ?_); rintro e w' ⟨rfl, ⟨nd, rfl⟩⟩; refine ⟨_, rfl, ?_⟩) | (go_at_call 9; (with_reducible refine (ref_Of.calls a0 a1 t124 _ A6.out).mono ?_); rintro e w' ⟨rfl, ⟨nd, rfl⟩⟩) | (go_at_call 12; (with_reducible refine (ordinateref1_Of.calls a0 a1 t125 _ A7.out).mono ?_); rintro e w' ⟨rfl, ⟨nd, rfl⟩⟩) | (go_at_call 10; (with_reducible refine (ref_Right.calls k a2 t126 _ A9.out).mono ?_); rintro e w' ⟨rfl, ⟨nd, rfl⟩⟩) | (go_at_call 13; (with_reducible refine (ordinateref1_Right.calls a2 t127 _ A10.out).mono ?_); rintro e w' ⟨rfl, ⟨nd, rfl⟩⟩))
        go_ret
        exact ⟨by first | rfl | (simp; done) | (simp [*]; done), by repeat (first | exact Drawn0.refl _ | apply Drawn0.step)⟩
    · rw [if_neg c8] at H
      have c8b0 : (t124 == t125) = false := beq_eq_false_iff_ne.mpr c8
      have c8b1 : (t124 != t125) = true := bne_iff_ne.mpr c8
      obtain rfl := Option.some.inj H
      go_enter Try.func4, Try.ntmps4
      go_wp2_with (first | ((with_reducible refine gate_callee (f := 8) rfl ?_); refine goesL_ (some 7) rfl rfl Try.func8 (by kernel_rfl) rfl #[] rfl (by (try simp only [List.map_toArray, List.map_cons, List.map_nil]); first | done | rfl | (simp only [List.length_drop, List.length_take]; rfl)) ?_; (with_reducible refine (ordinatelaw1_known.calls k  true _ A4.out).mono ?_); rintro e w' ⟨rfl, ⟨nd, rfl⟩⟩; refine ⟨_, rfl, ?_⟩) | (go_at_call 9; (with_reducible refine (ref_Of.calls a0 a1 t124 _ A6.out).mono ?_); rintro e w' ⟨rfl, ⟨nd, rfl⟩⟩) | (go_at_call 12; (with_reducible refine (ordinateref1_Of.calls a0 a1 t125 _ A7.out).mono ?_); rintro e w' ⟨rfl, ⟨nd, rfl⟩⟩))
      go_ret
      exact ⟨by first | rfl | (simp; done) | (simp [*]; done), by repeat (first | exact Drawn0.refl _ | apply Drawn0.step)⟩
  · replace c5 := Bool.eq_false_iff.mpr c5
    subst c5
    have H1 : (some false) = some r := by rw [if_neg (show ¬ (false = true) by decide)] at H; exact H
    clear H
    have H := H1
    clear H1
    obtain rfl := Option.some.inj H
    go_enter Try.func4, Try.ntmps4
    go_wp2_with (first | ((with_reducible refine gate_callee (f := 8) rfl ?_); refine goesL_ (some 7) rfl rfl Try.func8 (by kernel_rfl) rfl #[] rfl (by (try simp only [List.map_toArray, List.map_cons, List.map_nil]); first | done | rfl | (simp only [List.length_drop, List.length_take]; rfl)) ?_; (with_reducible refine (ordinatelaw1_known.calls k  false _ A4.out).mono ?_); rintro e w' ⟨rfl, ⟨nd, rfl⟩⟩; refine ⟨_, rfl, ?_⟩))
    go_ret
    exact ⟨by first | rfl | (simp; done) | (simp [*]; done), by repeat (first | exact Drawn0.refl _ | apply Drawn0.step)⟩

/-- THE ONE PURE STATEMENT of ordinatelaw1_RefTells: yours. -/
def ordinatelaw1_RefTells.Pure : Prop := ∀ (a0 : Int) (a1 : Int) (a2 : Int), (Lit.int .i64 a0).wf = true → (Lit.int .i64 a1).wf = true → (Lit.int .i64 a2).wf = true → ∃ k, ordinatelaw1_RefTells.f k a0 a1 a2 = some true
theorem ordinatelaw1_RefTells.walk (P : ordinatelaw1_RefTells.Pure) (a0 : Int) (a1 : Int) (a2 : Int) (w : World) (w0 : (Lit.int .i64 a0).wf = true) (w1 : (Lit.int .i64 a1).wf = true) (w2 : (Lit.int .i64 a2).wf = true) :
    Calls Try.prog 4 #[.int .i64 a0, .int .i64 a1, .int .i64 a2] w fun e w' => e = .returned (.bool true) ∧ Below w.heap.size w w' := by
  obtain ⟨k, h⟩ := P a0 a1 a2 w0 w1 w2
  refine (ordinatelaw1_RefTells.calls k a0 a1 a2 true w h).mono ?_
  rintro e w' ⟨rfl, hd⟩
  exact ⟨rfl, hd.below⟩

end Go.Proofs.Ytijdflmcabfkgaa.PRefTells
