/- The row of LinearRaw: where what it reads is of bulk at most 1048576, it answers true, and the input reads as it did; out of what the abstract machine comes to. No condition beyond the given statement. -/
import Derived.Test.YtgakioiplkehgaaRows
import Derived.Test.YtgakioiplkehgaaLinearRaw
import Derived.WalkKit
import Derived.ProofKit
import Derived.OpenShut
import Derived.ShutString
import Derived.ChangeOld
import Derived.Below
import Derived.SizedLaws
import Derived.JoinedCond
namespace Go.Proofs.Ytgakioiplkehgaa.linearRaw
open Go.ChangeShapes Go.WideShapes Go.ChangeAt Go.RowKit Go.Proofs.YtgakioiplkehgaaA.Am
set_option linter.unusedVariables false
set_option linter.unnecessarySimpa false
theorem bulk_pos {H : Type} (d : DataW H) : 1 ≤ Rows.uptoBulk d := by
  cases d with
  | lit l => cases l <;> simp [Rows.uptoBulk]
  | _ => simp [Rows.uptoBulk]
theorem bulk_all {H : Type} : ∀ l : List (DataW H), l.length ≤ Rows.uptoBulkAll l ∧ ∀ x ∈ l, Rows.uptoBulk x ≤ Rows.uptoBulkAll l
  | [] => ⟨Nat.zero_le _, fun x hx => by cases hx⟩
  | d :: l => by
    obtain ⟨h1, h2⟩ := bulk_all l
    have h3 := bulk_pos d
    refine ⟨by simp only [List.length_cons, Rows.uptoBulkAll]; omega, fun x hx => ?_⟩
    simp only [Rows.uptoBulkAll]
    rcases List.mem_cons.1 hx with rfl | hx
    · omega
    · have := h2 x hx; omega
theorem small {H : Type} : SmOk (A := H) 1048576 (fun d => Rows.uptoBulk d ≤ 1048576) := by
  refine ⟨fun elems spare h => ?_, fun parts h x hx => ?_⟩
  · simp only [Rows.uptoBulk] at h
    obtain ⟨h1, h2⟩ := bulk_all elems
    exact ⟨by omega, fun x hx => by have := h2 x hx; omega⟩
  · simp only [Rows.uptoBulk] at h
    have := (bulk_all parts).2 x hx
    omega
theorem own : ownKnob Try.prog.godebug = none := by kernel_rfl
set_option maxRecDepth 100000 in
theorem lifted (os : Os) (started : os.Started) (H : Type) (enc : TypeId × Value → H) (F0 : Stop.Interp) :
    ReturnsInHanded {} Try.checked os 4 .any ((Rows.OpenSpec.upto Rows.linearRawSpec).pre6 enc Try.prog Try.f4 Rows.linearRawUptoRow.domain false) (((Rows.OpenSpec.upto Rows.linearRawSpec).at F0).post enc Try.prog Try.f4 false true false false) := by
  refine returnsInHanded_of_cond (C := Try.checked) (s := Rows.OpenSpec.upto Rows.linearRawSpec) (k := Rows.uptoSmall) rfl own started (by kernel_rfl) Try.func4
    (OpenSpec.witness (enc := enc) (C := Try.checked) (s := Rows.OpenSpec.upto Rows.linearRawSpec) (k := Rows.uptoSmall) rfl false ⟨#[], #[.slice none 0 0, .slice none 0 0], []⟩ 8 (by kernel_rfl) (by kernel_rfl) (by kernel_rfl)
      (x := ([.nil, .nil], [], [])) (by kernel_rfl) (by kernel_rfl) (by kernel_rfl)) ?_
  intro W base args ds gs before hval0 hW hcnd hkk _
  have hval : ∀ (j : Nat) t v, Try.f4.params[j]? = some t → args[j]? = some v → Value.okWide Try.prog W .any base t v := hval0
  have hW' := hW
  obtain ⟨p, q, hA0, hV, rfl, hfz, hnd⟩ := hW
  have hA : DataW.TrodAll enc Try.prog W 0 (fun _ => true) true Try.f4.params.toList args.toList ds p := hA0
  rw [Try.params4] at hA hval
  obtain ⟨rfl, rfl⟩ := trodVars_none hV
  have hlt : ∀ x ∈ p, x.block < W.heap.size := fun x hx => by simpa using hW'.lt x (by simpa using hx)
  have hsm : ∀ d ∈ ds, Rows.uptoBulk d ≤ 1048576 := fun d hd => by
    have h1 := of_decide_eq_true (show decide (Rows.uptoBulkAll (ds ++ []) ≤ 1048576) = true from hkk)
    rw [List.append_nil] at h1
    exact Nat.le_trans ((bulk_all ds).2 d hd) h1
  have hw := LawU.walk small Pure.LinearRaw_law (by kernel_rfl) (vs := args.toList) (fun j t v e1 e2 => hval j t v (by simpa using e1) (by simpa using e2)) hA hsm
  have hA2 := hA
  obtain ⟨_, vs0, d0, ds0, p0, q0, _, rfl, _, _, r0⟩ := trodAll_cons hA2
  obtain ⟨_, vs1, d1, ds1, p1, q1, rfl, rfl, rfl, _, r1⟩ := trodAll_cons r0
  obtain ⟨_, rfl, _⟩ := trodAll_nil r1
  clear hA0 hval0
  rw [Array.toArray_toList] at hw
  refine hw.mono fun e W' ⟨he, bel⟩ => ?_
  subst he
  exact ⟨_, rfl, _, _, _, [], _, [], hW', trodAll_mk1 (shut_bool Try.underlying4 _), args_back (by kernel_rfl) _ _ _ _ (by kernel_rfl) hA bel hlt, rfl, bel.frame _, fun h => by cases h⟩
theorem over : Rows.linearRawUptoRow.holds Try.pinned (Rows.OpenSpec.upto Rows.linearRawSpec) :=
  OpenClaim.holds_of_cond 4 Try.f4 rfl rfl rfl rfl rfl rfl rfl ⟨rfl, rfl, rfl, rfl, rfl⟩ rfl rfl rfl rfl rfl (by kernel_rfl) Try.func4 (by kernel_rfl)
    (of_decide_eq_true (by kernel_rfl)) (by unfold Func.isWrapper; first | (rw [if_pos (by decide +kernel)]; kernel_rfl) | (rw [if_neg (by decide +kernel)]; exact ⟨rfl, rfl⟩))
    (fun os started H enc _ F0 => lifted os started H enc F0)
theorem proved : Rows.LinearRawUptoSaid := over
end Go.Proofs.Ytgakioiplkehgaa.linearRaw
namespace Go.Proofs.Ytgakioiplkehgaa
/-- The row, under a short name, for the claim. -/
theorem linearRawUpto_holds : Rows.LinearRawUptoSaid := linearRaw.proved
end Go.Proofs.Ytgakioiplkehgaa
