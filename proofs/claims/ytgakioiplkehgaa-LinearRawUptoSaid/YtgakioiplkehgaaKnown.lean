/- slices.Insert as it stands in the program; the law's shell. Written by wip/core/ins.py. -/
import Derived.Test.YtgakioiplkehgaaAmHp
import Derived.Test.YtgakioiplkehgaaAmIns2
import Derived.Test.YtgakioiplkehgaaFunK
namespace Go.Proofs.Ytgakioiplkehgaa.Fun
open Go Go.RowKit Go.Proofs.YtgakioiplkehgaaA.Am
set_option maxRecDepth 10000

theorem code56 : InsCode Try.prog 56 68 49 2 3 4 8 where
  mixed := by kernel_rfl
  uS := by kernel_rfl
  zE := by kernel_rfl
  bE := by kernel_rfl
  by4 := by decide
  uI := by kernel_rfl
  over := ⟨⟨fnAt Try.prog 68, by kernel_rfl, by kernel_rfl, by kernel_rfl, by kernel_rfl, by kernel_rfl⟩⟩
  code := ⟨fnAt Try.prog 56, rid (subC [1, 1, 1, 1, 1, 1, 0, 0] (bodyAt Try.prog 56)), rid (subC [1, 1, 1, 1, 1, 1, 0, 1, 0, 0] (bodyAt Try.prog 56)), rid (subC [1, 1, 1, 1, 1, 1, 1, 1, 0, 0] (bodyAt Try.prog 56)), rops (subC [1, 1, 1, 1, 1, 1, 0, 0] (bodyAt Try.prog 56)), rops (subC [1, 1, 1, 1, 1, 1, 0, 1, 0, 0] (bodyAt Try.prog 56)), rops (subC [1, 1, 1, 1, 1, 1, 1, 1, 0, 0] (bodyAt Try.prog 56)),
    (subC [0] (bodyAt Try.prog 56)), (subC [1, 0] (bodyAt Try.prog 56)), (subC [1, 1, 0] (bodyAt Try.prog 56)), (subC [1, 1, 1, 0] (bodyAt Try.prog 56)), (subC [1, 1, 1, 1, 0] (bodyAt Try.prog 56)), (subC [1, 1, 1, 1, 1, 0] (bodyAt Try.prog 56)), (subC [1, 1, 1, 1, 1, 1, 0, 1, 0, 1] (bodyAt Try.prog 56)), (subC [1, 1, 1, 1, 1, 1, 1, 0] (bodyAt Try.prog 56)), (subC [1, 1, 1, 1, 1, 1, 1, 1, 0, 1, 0] (bodyAt Try.prog 56)), (subC [1, 1, 1, 1, 1, 1, 1, 1, 1] (bodyAt Try.prog 56)), zAt Try.prog 2,
    by kernel_rfl, by kernel_rfl, by kernel_rfl, by kernel_rfl, by kernel_rfl, by kernel_rfl, by kernel_rfl,
    opsAre_of (by kernel_rfl), opsAre_of (by kernel_rfl), opsAre_of (by kernel_rfl),
    fun v0 v1 v2 v6 v7 v16 v8 v22 v31 v9 v68 H => by rw [ev_of_evk]; kernel_rfl,
    fun v0 v1 v2 v6 v7 v16 v8 v22 v31 v9 v68 H => by rw [ev_of_evk]; kernel_rfl,
    fun v0 v1 v2 v6 v7 v16 v8 v22 v31 v9 v68 H => by rw [ev_of_evk]; kernel_rfl,
    fun v0 v1 v2 v6 v7 v16 v8 v22 v31 v9 v68 H => by rw [ev_of_evk]; kernel_rfl⟩

abbrev ins : List (FuncId × TypeId) := [(56, 2)]
abbrev inb : List FuncId := [56]
theorem insAll : InsAll Try.prog ins := by
  intro q hq
  simp only [ins, List.mem_cons, List.not_mem_nil, or_false] at hq
  rcases hq with rfl
  · exact ⟨_, _, _, _, _, code56⟩
theorem okP : okProg Try.prog (inb ++ badOf Try.prog) = true := by kernel_rfl
abbrev kk : List FuncId := [8]
theorem okKP : okProg Try.prog (kk ++ (inb ++ badOf Try.prog)) = true := by kernel_rfl
theorem knownHold : (kk.all fun k => (acall Try.prog (inb ++ badOf Try.prog) (insK ins) 2000 k [] []).any fun r => eqV r.1 (.bool true)) = true := by kernel_rfl
abbrev KG : Oracle := kinG kk ins
theorem law_of {f : FuncId} {ts : List TypeId} (h : ∀ H args, AllRo H → InArgs Try.prog H 9 ts args → ∃ n H', run KG n f args H = some (.bool true, H')) : Law Try.prog f ts :=
  Law.of_ins kk ins 2000 insAll okP okKP knownHold h
end Go.Proofs.Ytgakioiplkehgaa.Fun
