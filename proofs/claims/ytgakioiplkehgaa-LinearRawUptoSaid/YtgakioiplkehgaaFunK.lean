/- The program's functions as plain terms, each with its equation; printed by wip/am/fun.py. -/
import Derived.Test.YtgakioiplkehgaaProg
import Derived.Test.YtgakioiplkehgaaAmK
import Derived.KernelRfl
namespace Go.Proofs.Ytgakioiplkehgaa.Fun
open Go.RowKit Go.Proofs.YtgakioiplkehgaaA.Am
set_option linter.unusedVariables false
set_option maxRecDepth 10000
abbrev ks : List FuncId := [8,56]
theorem badIs : badOf Try.prog = [] := by kernel_rfl
theorem notBad (f : FuncId) (h : (ks ++ [] : List FuncId).contains f = false) : (ks ++ badOf Try.prog).contains f = false := by rw [badIs]; exact h
/-- What a call comes to. -/
noncomputable def run (G : Oracle) (n : Nat) : Oracle := acall Try.prog (ks ++ badOf Try.prog) G n
end Go.Proofs.Ytgakioiplkehgaa.Fun
