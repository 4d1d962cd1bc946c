/-
  No cell of these rows narrows 'for every input' (looked for: loops, veiled, ifaces, maps, wideKeys, modest, calm, conditions, laid).
  DERIVED. THE GIVEN ROWS OF THIS SEAT. 6 by the template 'for every input the law returns true; each argument reads behind the call as it read before'; 0 by the template 'total and deterministic' (their statements: YtpapgoadglijiaaTotals.lean).
  GIVEN WITH THE SEED: the statements are not yours to turn. If you find one false, say at which input.
  Laid BY PROGRAM, IN A SANDBOX (cutbox-rows.mjs): the forced cells as the released guide's own fill.sh prints them over the translation 392a0b5e325a4fca… (all of the seat's roots in one cut). By AI agents, Wed Nov 11 2026. No macro, syntax, notation, axiom, sorry.
-/
import Derived.Test.YtpapgoadglijiaaChecked
import GoSem.Claim
import GoSem.ClaimJoined
import GoSem.ClaimMapViews
import Derived.JoinedTies
import Derived.KernelRfl
namespace Go.Proofs.Ytpapgoadglijiaa
/- THE CELL 'sum', in the pinned program and in every row, IS THE sha256 OF THE DUMP (.gsa) THAT YtpapgoadglijiaaProg.lean LOADS. Nothing in Lean hashes anything: it is a label: what it is worth is what the hold of that sum in a sandbox is worth. -/
noncomputable def Try.pinned : Pinned := { name := "ytpapgoadglijiaa", sum := "392a0b5e325a4fcad07e2a73a119ff3ab088b996e60b80c6abe1932040d4613f", checked := Try.checked }
namespace Rows
def none {H : Type} : Left H := { results := [], args := [] }

/-- 'ordinatelaw7.MemFresh': WHATEVER THE INPUT: true; the input reads as it did. -/
def memFreshSpec : ChangeSpec := { name := "memFresh", fn := fun _ => fun
  | [d1, d2] => { results := [.lit (.bool true)], args := [d1, d2] }
  | _ => none }
def memFreshRow : OpenClaim := { program := "ytpapgoadglijiaa", sum := "392a0b5e325a4fcad07e2a73a119ff3ab088b996e60b80c6abe1932040d4613f", func := "ordinate/ordinatelaw7.MemFresh", spec := "memFresh", apart := false }
def MemFreshSaid : Prop := memFreshRow.holds Try.pinned (OpenSpec.ofChange memFreshSpec)

/-- ITS FALSE NEIGHBOUR: 'it returns false'. Refute it at one input. -/
def memFreshWrong : ChangeSpec := { name := "memFresh", fn := fun _ => fun
  | [d1, d2] => { results := [.lit (.bool false)], args := [d1, d2] }
  | _ => none }
def MemFreshWrongFalsely : Prop := memFreshRow.holds Try.pinned (OpenSpec.ofChange memFreshWrong)

/-- 'ordinatelaw7.MemKnown': WHATEVER THE INPUT: true; the input reads as it did. -/
def memKnownSpec : ChangeSpec := { name := "memKnown", fn := fun _ => fun
  | [] => { results := [.lit (.bool true)], args := [] }
  | _ => none }
def memKnownRow : OpenClaim := { program := "ytpapgoadglijiaa", sum := "392a0b5e325a4fcad07e2a73a119ff3ab088b996e60b80c6abe1932040d4613f", func := "ordinate/ordinatelaw7.MemKnown", spec := "memKnown", apart := false }
def MemKnownSaid : Prop := memKnownRow.holds Try.pinned (OpenSpec.ofChange memKnownSpec)

/-- ITS FALSE NEIGHBOUR: 'it returns false'. Refute it at one input. -/
def memKnownWrong : ChangeSpec := { name := "memKnown", fn := fun _ => fun
  | [] => { results := [.lit (.bool false)], args := [] }
  | _ => none }
def MemKnownWrongFalsely : Prop := memKnownRow.holds Try.pinned (OpenSpec.ofChange memKnownWrong)

/-- 'ordinatelaw7.MemOdd': WHATEVER THE INPUT: true; the input reads as it did. -/
def memOddSpec : ChangeSpec := { name := "memOdd", fn := fun _ => fun
  | [d1, d2, d3, d4] => { results := [.lit (.bool true)], args := [d1, d2, d3, d4] }
  | _ => none }
def memOddRow : OpenClaim := { program := "ytpapgoadglijiaa", sum := "392a0b5e325a4fcad07e2a73a119ff3ab088b996e60b80c6abe1932040d4613f", func := "ordinate/ordinatelaw7.MemOdd", spec := "memOdd", apart := false }
def MemOddSaid : Prop := memOddRow.holds Try.pinned (OpenSpec.ofChange memOddSpec)

/-- ITS FALSE NEIGHBOUR: 'it returns false'. Refute it at one input. -/
def memOddWrong : ChangeSpec := { name := "memOdd", fn := fun _ => fun
  | [d1, d2, d3, d4] => { results := [.lit (.bool false)], args := [d1, d2, d3, d4] }
  | _ => none }
def MemOddWrongFalsely : Prop := memOddRow.holds Try.pinned (OpenSpec.ofChange memOddWrong)

/-- 'ordinatelaw7.MemOne': WHATEVER THE INPUT: true; the input reads as it did. -/
def memOneSpec : ChangeSpec := { name := "memOne", fn := fun _ => fun
  | [d1, d2] => { results := [.lit (.bool true)], args := [d1, d2] }
  | _ => none }
def memOneRow : OpenClaim := { program := "ytpapgoadglijiaa", sum := "392a0b5e325a4fcad07e2a73a119ff3ab088b996e60b80c6abe1932040d4613f", func := "ordinate/ordinatelaw7.MemOne", spec := "memOne", apart := false }
def MemOneSaid : Prop := memOneRow.holds Try.pinned (OpenSpec.ofChange memOneSpec)

/-- ITS FALSE NEIGHBOUR: 'it returns false'. Refute it at one input. -/
def memOneWrong : ChangeSpec := { name := "memOne", fn := fun _ => fun
  | [d1, d2] => { results := [.lit (.bool false)], args := [d1, d2] }
  | _ => none }
def MemOneWrongFalsely : Prop := memOneRow.holds Try.pinned (OpenSpec.ofChange memOneWrong)

/-- 'ordinatelaw7.MemPlays': WHATEVER THE INPUT: true; the input reads as it did. -/
def memPlaysSpec : ChangeSpec := { name := "memPlays", fn := fun _ => fun
  | [d1, d2, d3] => { results := [.lit (.bool true)], args := [d1, d2, d3] }
  | _ => none }
def memPlaysRow : OpenClaim := { program := "ytpapgoadglijiaa", sum := "392a0b5e325a4fcad07e2a73a119ff3ab088b996e60b80c6abe1932040d4613f", func := "ordinate/ordinatelaw7.MemPlays", spec := "memPlays", apart := false }
def MemPlaysSaid : Prop := memPlaysRow.holds Try.pinned (OpenSpec.ofChange memPlaysSpec)

/-- ITS FALSE NEIGHBOUR: 'it returns false'. Refute it at one input. -/
def memPlaysWrong : ChangeSpec := { name := "memPlays", fn := fun _ => fun
  | [d1, d2, d3] => { results := [.lit (.bool false)], args := [d1, d2, d3] }
  | _ => none }
def MemPlaysWrongFalsely : Prop := memPlaysRow.holds Try.pinned (OpenSpec.ofChange memPlaysWrong)

/-- 'ordinatelaw7.MemApart': WHATEVER THE INPUT: true; the input reads as it did. -/
def memApartSpec : ChangeSpec := { name := "memApart", fn := fun _ => fun
  | [d1, d2, d3] => { results := [.lit (.bool true)], args := [d1, d2, d3] }
  | _ => none }
def memApartRow : OpenClaim := { program := "ytpapgoadglijiaa", sum := "392a0b5e325a4fcad07e2a73a119ff3ab088b996e60b80c6abe1932040d4613f", func := "ordinate/ordinatelaw7.MemApart", spec := "memApart", apart := false }
def MemApartSaid : Prop := memApartRow.holds Try.pinned (OpenSpec.ofChange memApartSpec)

/-- ITS FALSE NEIGHBOUR: 'it returns false'. Refute it at one input. -/
def memApartWrong : ChangeSpec := { name := "memApart", fn := fun _ => fun
  | [d1, d2, d3] => { results := [.lit (.bool false)], args := [d1, d2, d3] }
  | _ => none }
def MemApartWrongFalsely : Prop := memApartRow.holds Try.pinned (OpenSpec.ofChange memApartWrong)

/- THE SECOND FORM. 'bulk': how many values and letters a reading holds, each counted each time it is reached (what is shared counts as often as it is met; a slice's spare places count too). A statement '..UptoSaid' is the law's where the arguments, and the package variables that the reading takes, are together of bulk at most 1048576: NARROWER than '..Said'. Prove '..Said' where nothing that the law and all that it calls make is longer than what came in: it says more and counts as full. Else prove '..UptoSaid'. A law counts once. -/
mutual
def uptoBulk {H : Type} : DataW H → Nat
  | .lit (.string bytes) => bytes.length + 1
  | .lit _ => 1
  | .nil => 1
  | .ptr d => uptoBulk d + 1
  | .slice elems spare => uptoBulkAll elems + uptoBulkAll spare + 1
  | .agg parts => uptoBulkAll parts + 1
  | .iface _ d => uptoBulk d + 1
  | .map entries => uptoBulkEntries entries + 1
  | .held _ => 1
def uptoBulkAll {H : Type} : List (DataW H) → Nat
  | [] => 0
  | d :: r => uptoBulk d + uptoBulkAll r
def uptoBulkEntries {H : Type} : List (Lit × DataW H) → Nat
  | [] => 0
  | x :: r => uptoBulkEntry x + uptoBulkEntries r
def uptoBulkEntry {H : Type} : Lit × DataW H → Nat
  | (.string bytes, d) => bytes.length + uptoBulk d + 1
  | (_, d) => uptoBulk d + 1
 end
def uptoSmall : (H : Type) → List (DataW H) → Bool := fun _ ds => decide (uptoBulkAll ds ≤ 1048576)
def OpenSpec.upto (s : _root_.Go.ChangeSpec) : _root_.Go.OpenSpec := { _root_.Go.OpenSpec.ofChange s with cond := some uptoSmall }

/-- 'ordinatelaw7.MemFresh', WHERE WHAT IT READS IS OF BULK AT MOST 1048576: true; the input reads as it did. -/
def memFreshUptoRow : OpenClaim := { program := "ytpapgoadglijiaa", sum := "392a0b5e325a4fcad07e2a73a119ff3ab088b996e60b80c6abe1932040d4613f", func := "ordinate/ordinatelaw7.MemFresh", spec := "memFresh", apart := false, narrowed := true }
def MemFreshUptoSaid : Prop := memFreshUptoRow.holds Try.pinned (OpenSpec.upto memFreshSpec)

/-- 'ordinatelaw7.MemKnown', WHERE WHAT IT READS IS OF BULK AT MOST 1048576: true; the input reads as it did. -/
def memKnownUptoRow : OpenClaim := { program := "ytpapgoadglijiaa", sum := "392a0b5e325a4fcad07e2a73a119ff3ab088b996e60b80c6abe1932040d4613f", func := "ordinate/ordinatelaw7.MemKnown", spec := "memKnown", apart := false, narrowed := true }
def MemKnownUptoSaid : Prop := memKnownUptoRow.holds Try.pinned (OpenSpec.upto memKnownSpec)

/-- 'ordinatelaw7.MemOdd', WHERE WHAT IT READS IS OF BULK AT MOST 1048576: true; the input reads as it did. -/
def memOddUptoRow : OpenClaim := { program := "ytpapgoadglijiaa", sum := "392a0b5e325a4fcad07e2a73a119ff3ab088b996e60b80c6abe1932040d4613f", func := "ordinate/ordinatelaw7.MemOdd", spec := "memOdd", apart := false, narrowed := true }
def MemOddUptoSaid : Prop := memOddUptoRow.holds Try.pinned (OpenSpec.upto memOddSpec)

/-- 'ordinatelaw7.MemOne', WHERE WHAT IT READS IS OF BULK AT MOST 1048576: true; the input reads as it did. -/
def memOneUptoRow : OpenClaim := { program := "ytpapgoadglijiaa", sum := "392a0b5e325a4fcad07e2a73a119ff3ab088b996e60b80c6abe1932040d4613f", func := "ordinate/ordinatelaw7.MemOne", spec := "memOne", apart := false, narrowed := true }
def MemOneUptoSaid : Prop := memOneUptoRow.holds Try.pinned (OpenSpec.upto memOneSpec)

/-- 'ordinatelaw7.MemPlays', WHERE WHAT IT READS IS OF BULK AT MOST 1048576: true; the input reads as it did. -/
def memPlaysUptoRow : OpenClaim := { program := "ytpapgoadglijiaa", sum := "392a0b5e325a4fcad07e2a73a119ff3ab088b996e60b80c6abe1932040d4613f", func := "ordinate/ordinatelaw7.MemPlays", spec := "memPlays", apart := false, narrowed := true }
def MemPlaysUptoSaid : Prop := memPlaysUptoRow.holds Try.pinned (OpenSpec.upto memPlaysSpec)

/-- 'ordinatelaw7.MemApart', WHERE WHAT IT READS IS OF BULK AT MOST 1048576: true; the input reads as it did. -/
def memApartUptoRow : OpenClaim := { program := "ytpapgoadglijiaa", sum := "392a0b5e325a4fcad07e2a73a119ff3ab088b996e60b80c6abe1932040d4613f", func := "ordinate/ordinatelaw7.MemApart", spec := "memApart", apart := false, narrowed := true }
def MemApartUptoSaid : Prop := memApartUptoRow.holds Try.pinned (OpenSpec.upto memApartSpec)

end Rows
end Go.Proofs.Ytpapgoadglijiaa
