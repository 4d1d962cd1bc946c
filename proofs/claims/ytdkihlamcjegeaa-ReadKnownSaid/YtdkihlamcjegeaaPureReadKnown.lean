/- Proved: ReadKnown answers true, whatever memory it starts in and whatever order is drawn: what the abstract machine comes to, reckoned by the kernel, and the machine's soundness. No condition. -/
import Derived.Test.YtdkihlamcjegeaaProg
import Derived.Test.YtdkihlamcjegeaaAmSound
import Derived.KernelRfl
namespace Go.Proofs.Ytdkihlamcjegeaa.Pure
open Go.RowKit Go.Proofs.YtdkihlamcjegeaaA.Am
theorem okReadKnown : okProg Try.prog (badOf Try.prog) = true := by kernel_rfl
theorem runsReadKnown : (acall Try.prog (badOf Try.prog) noG 200 9 [] []).map Prod.fst = some (.bool true) := by kernel_rfl
theorem ReadKnown_walk (w : World) : Calls Try.prog 9 #[] w fun e w' => e = .returned (.bool true) ∧ Below w.heap.size w w' := by
  obtain ⟨⟨v, H⟩, h1, h2⟩ := Option.map_eq_some_iff.1 runsReadKnown
  cases h2
  exact law_true okReadKnown h1 (Sim.empty w) .nil
end Go.Proofs.Ytdkihlamcjegeaa.Pure
