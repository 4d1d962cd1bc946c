/- Proved: DcssKnown answers true, whatever memory it starts in and whatever order is drawn: what the abstract machine comes to, reckoned by the kernel, and the machine's soundness. No condition. -/
import Derived.Test.YtdkihlamcjegeaaProg
import Derived.Test.YtdkihlamcjegeaaAmSound
import Derived.KernelRfl
namespace Go.Proofs.Ytdkihlamcjegeaa.Pure
open Go.RowKit Go.Proofs.YtdkihlamcjegeaaA.Am
theorem okDcssKnown : okProg Try.prog (badOf Try.prog) = true := by kernel_rfl
theorem runsDcssKnown : (acall Try.prog (badOf Try.prog) noG 200 5 [] []).map Prod.fst = some (.bool true) := by kernel_rfl
theorem DcssKnown_walk (w : World) : Calls Try.prog 5 #[] w fun e w' => e = .returned (.bool true) ∧ Below w.heap.size w w' := by
  obtain ⟨⟨v, H⟩, h1, h2⟩ := Option.map_eq_some_iff.1 runsDcssKnown
  cases h2
  exact law_true okDcssKnown h1 (Sim.empty w) .nil
end Go.Proofs.Ytdkihlamcjegeaa.Pure
