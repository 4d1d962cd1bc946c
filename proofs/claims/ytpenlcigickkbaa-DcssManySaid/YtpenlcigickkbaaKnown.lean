/- The closed functions 'known' answer true; the program may be gone through. -/
import Derived.Test.YtpenlcigickkbaaAmHp
import Derived.Test.YtpenlcigickkbaaFunK
namespace Go.Proofs.Ytpenlcigickkbaa.Fun
open Go.RowKit Go.Proofs.YtpenlcigickkbaaA.Am
theorem okP : okProg Try.prog (badOf Try.prog) = true := by kernel_rfl
theorem okKP : okProg Try.prog (ks ++ badOf Try.prog) = true := by kernel_rfl
theorem knownHold : (ks.all fun k => (acall Try.prog (badOf Try.prog) noG 400 k [] []).any fun r => eqV r.1 (.bool true)) = true := by kernel_rfl
theorem law_of {f : FuncId} {ts : List TypeId} (h : ∀ H args, AllRo H → InArgs Try.prog H 9 ts args → ∃ n H', run (knownG ks) n f args H = some (.bool true, H')) : Law Try.prog f ts :=
  Law.of_known ks 400 okP okKP knownHold h
end Go.Proofs.Ytpenlcigickkbaa.Fun
