/- The row of NodeTells: whatever the input, it answers true, and the input reads as it did; out of what the abstract machine comes to. No condition beyond the given statement. -/
import Derived.Test.YtpenlcigickkbaaRows
import Derived.Test.YtpenlcigickkbaaNodeTells
import Derived.WalkKit
import Derived.ProofKit
import Derived.OpenShut
import Derived.ShutString
import Derived.ChangeOld
import Derived.Below
import Derived.SizedLaws
namespace Go.Proofs.Ytpenlcigickkbaa.nodeTells
open Go.ChangeShapes Go.WideShapes Go.ChangeAt Go.RowKit Go.Proofs.YtpenlcigickkbaaA.Am
set_option linter.unusedVariables false
theorem own : ownKnob Try.prog.godebug = none := by kernel_rfl
set_option maxRecDepth 100000 in
theorem lifted (os : Os) (started : os.Started) (H : Type) (enc : TypeId × Value → H) :
    ReturnsInHanded {} Try.checked os 8 .any (Rows.nodeTellsSpec.pre6 enc Try.prog Try.f8 Rows.nodeTellsRow.domain false) (Rows.nodeTellsSpec.post enc Try.prog Try.f8 false true false false) := by
  refine returnsInHanded_of_change_sized (C := Try.checked) own started (by kernel_rfl) Try.func8
    (ChangeSpec.witness6 (enc := enc) (C := Try.checked) false ⟨#[], #[.int .i64 0, .int .i64 0, .int .i64 0, .slice none 0 0, .slice none 0 0, .int .i64 0, .int .i64 0, .int .i64 0], []⟩ 8 (by kernel_rfl) (by kernel_rfl) (by kernel_rfl) (by kernel_rfl)) ?_
  intro W base args ds gs before hval0 hW hcnd hsz0 _
  have hval : ∀ (j : Nat) t v, Try.f8.params[j]? = some t → args[j]? = some v → Value.okWide Try.prog W .any base t v := hval0
  have hW' := hW
  obtain ⟨p, q, hA0, hV, rfl, hfz, hnd⟩ := hW
  have hA : DataW.TrodAll enc Try.prog W 0 (fun _ => true) true Try.f8.params.toList args.toList ds p := hA0
  rw [Try.params8] at hA hval
  obtain ⟨rfl, rfl⟩ := trodVars_none hV
  have hlt : ∀ x ∈ p, x.block < W.heap.size := fun x hx => by simpa using hW'.lt x (by simpa using hx)
  have hw := Law.walk Pure.NodeTells_law (by kernel_rfl) (vs := args.toList) (fun j t v e1 e2 => hval j t v (by simpa using e1) (by simpa using e2)) hA
  have hA2 := hA
  obtain ⟨_, vs0, d0, ds0, p0, q0, _, rfl, _, _, r0⟩ := trodAll_cons hA2
  obtain ⟨_, vs1, d1, ds1, p1, q1, rfl, rfl, rfl, _, r1⟩ := trodAll_cons r0
  obtain ⟨_, vs2, d2, ds2, p2, q2, rfl, rfl, rfl, _, r2⟩ := trodAll_cons r1
  obtain ⟨_, vs3, d3, ds3, p3, q3, rfl, rfl, rfl, _, r3⟩ := trodAll_cons r2
  obtain ⟨_, vs4, d4, ds4, p4, q4, rfl, rfl, rfl, _, r4⟩ := trodAll_cons r3
  obtain ⟨_, vs5, d5, ds5, p5, q5, rfl, rfl, rfl, _, r5⟩ := trodAll_cons r4
  obtain ⟨_, vs6, d6, ds6, p6, q6, rfl, rfl, rfl, _, r6⟩ := trodAll_cons r5
  obtain ⟨_, vs7, d7, ds7, p7, q7, rfl, rfl, rfl, _, r7⟩ := trodAll_cons r6
  obtain ⟨_, rfl, _⟩ := trodAll_nil r7
  clear hA0 hval0 hsz0
  rw [Array.toArray_toList] at hw
  refine hw.mono fun e W' ⟨he, bel⟩ => ?_
  subst he
  exact ⟨_, rfl, _, _, _, [], _, [], hW', trodAll_mk1 (shut_bool Try.underlying4 _), args_back (by kernel_rfl) _ _ _ _ (by kernel_rfl) hA bel hlt, rfl, bel.frame _, fun h => by cases h⟩
theorem over : Rows.nodeTellsRow.holds Try.pinned (OpenSpec.ofChange Rows.nodeTellsSpec) :=
  OpenClaim.holds_of_wide 8 Try.f8 rfl rfl rfl rfl rfl rfl rfl ⟨rfl, rfl, rfl, rfl, rfl⟩ rfl rfl rfl rfl rfl (by kernel_rfl) Try.func8 (by kernel_rfl)
    (of_decide_eq_true (by kernel_rfl)) (by unfold Func.isWrapper; first | (rw [if_pos (by decide +kernel)]; kernel_rfl) | (rw [if_neg (by decide +kernel)]; exact ⟨rfl, rfl⟩))
    (fun os started H enc _ => lifted os started H enc)
theorem proved : Rows.NodeTellsSaid := over
end Go.Proofs.Ytpenlcigickkbaa.nodeTells
namespace Go.Proofs.Ytpenlcigickkbaa
/-- The row, under a short name, for the claim. -/
theorem nodeTells_holds : Rows.NodeTellsSaid := nodeTells.proved
end Go.Proofs.Ytpenlcigickkbaa
