/- Proved: MapKnown answers true: closed, what the abstract machine comes to, reckoned by the kernel. No condition. -/
import Derived.Test.YtdgolnenpnkjbaaKnown
namespace Go.Proofs.Ytdgolnenpnkjbaa.Pure
open Go Go.RowKit Go.Proofs.YtdgolnenpnkjbaaA.Am Go.Proofs.Ytdgolnenpnkjbaa.Fun
theorem MapKnown_ok : okProg Try.prog ([5] ++ (inb ++ badOf Try.prog)) = true := by kernel_rfl
theorem MapKnown_hold : (([5] : List FuncId).all fun k => (acall Try.prog (inb ++ badOf Try.prog) (insK ins) 2000 k [] []).any fun r => eqV r.1 (.bool true)) = true := by kernel_rfl
theorem MapKnown_law : Law Try.prog 5 [] :=
  Law.of_ins [5] ins 2000 insAll okP MapKnown_ok MapKnown_hold fun H args _ hi => ⟨1, H, by
    obtain rfl : args = [] := hi
    simp [acall, kinG]⟩
end Go.Proofs.Ytdgolnenpnkjbaa.Pure
