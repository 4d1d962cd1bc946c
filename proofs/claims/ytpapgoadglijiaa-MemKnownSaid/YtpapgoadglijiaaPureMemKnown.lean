/- Proved: MemKnown answers true, whatever memory it starts in and whatever order is drawn: the abstract machine's run of it, reckoned by the kernel. -/
import Derived.Test.YtpapgoadglijiaaProg
import Derived.Test.YtpapgoadglijiaaAmSound
import Derived.KernelRfl
namespace Go.Proofs.Ytpapgoadglijiaa.Pure
open Go.RowKit Go.Proofs.YtpapgoadglijiaaA.Am
theorem okProgram : okProg Try.prog [] = true := by kernel_rfl
theorem runs : (acall Try.prog [] noG 40 4 [] []).map Prod.fst = some (.bool true) := by kernel_rfl
theorem MemKnown_walk (w : World) : Calls Try.prog 4 #[] w fun e w' => e = .returned (.bool true) ∧ Below w.heap.size w w' := by
  obtain ⟨⟨v, H⟩, h1, h2⟩ := Option.map_eq_some_iff.1 runs
  cases h2
  exact law_true okProgram h1 (Sim.empty w) .nil
end Go.Proofs.Ytpapgoadglijiaa.Pure
