/- The row of LinearOrder: whatever the input, it answers true, and the input reads as it did; out of what the abstract machine comes to. No condition beyond the given statement. -/
import Derived.Test.YtgakioiplkehgaaRows
import Derived.Test.YtgakioiplkehgaaLinearOrder
import Derived.WalkKit
import Derived.ProofKit
import Derived.OpenShut
import Derived.ShutString
import Derived.ChangeOld
import Derived.Below
import Derived.SizedLaws
namespace Go.Proofs.Ytgakioiplkehgaa.linearOrder
open Go.ChangeShapes Go.WideShapes Go.ChangeAt Go.RowKit Go.Proofs.YtgakioiplkehgaaA.Am
set_option linter.unusedVariables false
set_option linter.unnecessarySimpa false
theorem own : ownKnob Try.prog.godebug = none := by kernel_rfl
set_option maxRecDepth 100000 in
theorem lifted (os : Os) (started : os.Started) (H : Type) (enc : TypeId × Value → H) :
    ReturnsInHanded {} Try.checked os 6 .any (Rows.linearOrderSpec.pre6 enc Try.prog Try.f6 Rows.linearOrderRow.domain false) (Rows.linearOrderSpec.post enc Try.prog Try.f6 false true false false) := by
  refine returnsInHanded_of_change_sized (C := Try.checked) own started (by kernel_rfl) Try.func6
    (ChangeSpec.witness6 (enc := enc) (C := Try.checked) false ⟨#[], #[.slice none 0 0, .int .i64 0], []⟩ 8 (by kernel_rfl) (by kernel_rfl) (by kernel_rfl) (by kernel_rfl)) ?_
  intro W base args ds gs before hval0 hW hcnd hsz0 _
  have hval : ∀ (j : Nat) t v, Try.f6.params[j]? = some t → args[j]? = some v → Value.okWide Try.prog W .any base t v := hval0
  have hW' := hW
  obtain ⟨p, q, hA0, hV, rfl, hfz, hnd⟩ := hW
  have hA : DataW.TrodAll enc Try.prog W 0 (fun _ => true) true Try.f6.params.toList args.toList ds p := hA0
  rw [Try.params6] at hA hval
  obtain ⟨rfl, rfl⟩ := trodVars_none hV
  have hlt : ∀ x ∈ p, x.block < W.heap.size := fun x hx => by simpa using hW'.lt x (by simpa using hx)
  have hw := Law.walk Pure.LinearOrder_law (by kernel_rfl) (vs := args.toList) (fun j t v e1 e2 => hval j t v (by simpa using e1) (by simpa using e2)) hA
  have hA2 := hA
  obtain ⟨_, vs0, d0, ds0, p0, q0, _, rfl, _, _, r0⟩ := trodAll_cons hA2
  obtain ⟨_, vs1, d1, ds1, p1, q1, rfl, rfl, rfl, _, r1⟩ := trodAll_cons r0
  obtain ⟨_, rfl, _⟩ := trodAll_nil r1
  clear hA0 hval0 hsz0
  rw [Array.toArray_toList] at hw
  refine hw.mono fun e W' ⟨he, bel⟩ => ?_
  subst he
  exact ⟨_, rfl, _, _, _, [], _, [], hW', trodAll_mk1 (shut_bool Try.underlying4 _), args_back (by kernel_rfl) _ _ _ _ (by kernel_rfl) hA bel hlt, rfl, bel.frame _, fun h => by cases h⟩
theorem over : Rows.linearOrderRow.holds Try.pinned (OpenSpec.ofChange Rows.linearOrderSpec) :=
  OpenClaim.holds_of_wide 6 Try.f6 rfl rfl rfl rfl rfl rfl rfl ⟨rfl, rfl, rfl, rfl, rfl⟩ rfl rfl rfl rfl rfl (by kernel_rfl) Try.func6 (by kernel_rfl)
    (of_decide_eq_true (by kernel_rfl)) (by unfold Func.isWrapper; first | (rw [if_pos (by decide +kernel)]; kernel_rfl) | (rw [if_neg (by decide +kernel)]; exact ⟨rfl, rfl⟩))
    (fun os started H enc _ => lifted os started H enc)
theorem proved : Rows.LinearOrderSaid := over
end Go.Proofs.Ytgakioiplkehgaa.linearOrder
namespace Go.Proofs.Ytgakioiplkehgaa
/-- The row, under a short name, for the claim. -/
theorem linearOrder_holds : Rows.LinearOrderSaid := linearOrder.proved
end Go.Proofs.Ytgakioiplkehgaa
