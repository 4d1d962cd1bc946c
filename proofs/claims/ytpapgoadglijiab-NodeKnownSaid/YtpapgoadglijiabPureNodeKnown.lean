/- Proved: NodeKnown answers true, whatever memory it starts in and whatever order is drawn: what the abstract machine comes to, reckoned by the kernel, and the machine's soundness. No condition. -/
import Derived.Test.YtpapgoadglijiabProg
import Derived.Test.YtpapgoadglijiabAmSound
import Derived.KernelRfl
namespace Go.Proofs.Ytpapgoadglijiab.Pure
open Go.RowKit Go.Proofs.YtpapgoadglijiabA.Am
theorem okNodeKnown : okProg Try.prog (badOf Try.prog) = true := by kernel_rfl
theorem runsNodeKnown : (acall Try.prog (badOf Try.prog) noG 200 3 [] []).map Prod.fst = some (.bool true) := by kernel_rfl
theorem NodeKnown_walk (w : World) : Calls Try.prog 3 #[] w fun e w' => e = .returned (.bool true) ∧ Below w.heap.size w w' := by
  obtain ⟨⟨v, H⟩, h1, h2⟩ := Option.map_eq_some_iff.1 runsNodeKnown
  cases h2
  exact law_true okNodeKnown h1 (Sim.empty w) .nil
end Go.Proofs.Ytpapgoadglijiab.Pure
