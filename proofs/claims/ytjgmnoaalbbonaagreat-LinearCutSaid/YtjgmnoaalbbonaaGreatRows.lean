/-
  No cell of these rows narrows 'for every input' (looked for: loops, veiled, ifaces, maps, wideKeys, modest, calm, conditions, laid).
  DERIVED. THE GIVEN ROWS OF THIS SEAT. 2 by the template 'for every input the law returns true; each argument reads behind the call as it read before'; 0 by the template 'total and deterministic' (their statements: YtjgmnoaalbbonaaGreatTotals.lean).
  GIVEN WITH THE SEED: the statements are not yours to turn. If you find one false, say at which input.
  Laid BY PROGRAM, IN A SANDBOX (cutbox-rows.mjs): the forced cells as the released guide's own fill.sh prints them over the translation c333f84901c37340… (all of the seat's roots in one cut). By AI agents, Wed Nov 11 2026. No macro, syntax, notation, axiom, sorry.
-/
import Derived.Test.YtjgmnoaalbbonaaGreatChecked
import GoSem.Claim
import GoSem.ClaimJoined
import GoSem.ClaimMapViews
import Derived.JoinedTies
import Derived.KernelRfl
namespace Go.Proofs.YtjgmnoaalbbonaaGreat
/- THE CELL 'sum', in the pinned program and in every row, IS THE sha256 OF THE DUMP (.gsa) THAT YtjgmnoaalbbonaaGreatProg.lean LOADS. Nothing in Lean hashes anything: it is a label: what it is worth is what the hold of that sum in a sandbox is worth. -/
noncomputable def Tryz.pinned : Pinned := { name := "ytjgmnoaalbbonaagreat", sum := "c333f84901c373409fd866649f681b1610c6e97e1d67e4d1ad18ec3fcf193eed", checked := Tryz.checked }
namespace Rows
def none {H : Type} : Left H := { results := [], args := [] }

/-- 'ordinatelaw28.LinearChecks': WHATEVER THE INPUT: true; the input reads as it did. -/
def linearChecksSpec : ChangeSpec := { name := "linearChecks", fn := fun _ => fun
  | [d1, d2, d3] => { results := [.lit (.bool true)], args := [d1, d2, d3] }
  | _ => none }
def linearChecksRow : OpenClaim := { program := "ytjgmnoaalbbonaagreat", sum := "c333f84901c373409fd866649f681b1610c6e97e1d67e4d1ad18ec3fcf193eed", func := "ordinate/ordinatelaw28.LinearChecks", spec := "linearChecks", inPlace := ["slices.overlaps[int64]"], unfollowed := true, recurses := true, apart := false }
def LinearChecksSaid : Prop := linearChecksRow.holds Tryz.pinned (OpenSpec.ofChange linearChecksSpec)

/-- ITS FALSE NEIGHBOUR: 'it returns false'. Refute it at one input. -/
def linearChecksWrong : ChangeSpec := { name := "linearChecks", fn := fun _ => fun
  | [d1, d2, d3] => { results := [.lit (.bool false)], args := [d1, d2, d3] }
  | _ => none }
def LinearChecksWrongFalsely : Prop := linearChecksRow.holds Tryz.pinned (OpenSpec.ofChange linearChecksWrong)

/-- 'ordinatelaw28.LinearCut': WHATEVER THE INPUT: true; the input reads as it did. -/
def linearCutSpec : ChangeSpec := { name := "linearCut", fn := fun _ => fun
  | [d1, d2, d3, d4] => { results := [.lit (.bool true)], args := [d1, d2, d3, d4] }
  | _ => none }
def linearCutRow : OpenClaim := { program := "ytjgmnoaalbbonaagreat", sum := "c333f84901c373409fd866649f681b1610c6e97e1d67e4d1ad18ec3fcf193eed", func := "ordinate/ordinatelaw28.LinearCut", spec := "linearCut", inPlace := ["slices.overlaps[int64]"], unfollowed := true, recurses := true, apart := false }
def LinearCutSaid : Prop := linearCutRow.holds Tryz.pinned (OpenSpec.ofChange linearCutSpec)

/-- ITS FALSE NEIGHBOUR: 'it returns false'. Refute it at one input. -/
def linearCutWrong : ChangeSpec := { name := "linearCut", fn := fun _ => fun
  | [d1, d2, d3, d4] => { results := [.lit (.bool false)], args := [d1, d2, d3, d4] }
  | _ => none }
def LinearCutWrongFalsely : Prop := linearCutRow.holds Tryz.pinned (OpenSpec.ofChange linearCutWrong)

/- THE SECOND FORM. 'bulk': how many values and letters a reading holds, each counted each time it is reached (what is shared counts as often as it is met; a slice's spare places count too). A statement '..UptoSaid' is the law's where the arguments, and the package variables that the reading takes, are together of bulk at most 1048576: NARROWER than '..Said'. Prove '..Said' where nothing that the law and all that it calls make is longer than what came in: it says more and counts as full. Else prove '..UptoSaid'. A law counts once. -/
mutual
def uptoBulk {H : Type} : DataW H → Nat
  | .lit (.string bytes) => bytes.length + 1
  | .lit _ => 1
  | .nil => 1
  | .ptr d => uptoBulk d + 1
  | .slice elems spare => uptoBulkAll elems + uptoBulkAll spare + 1
  | .agg parts => uptoBulkAll parts + 1
  | .iface _ d => uptoBulk d + 1
  | .map entries => uptoBulkEntries entries + 1
  | .held _ => 1
def uptoBulkAll {H : Type} : List (DataW H) → Nat
  | [] => 0
  | d :: r => uptoBulk d + uptoBulkAll r
def uptoBulkEntries {H : Type} : List (Lit × DataW H) → Nat
  | [] => 0
  | x :: r => uptoBulkEntry x + uptoBulkEntries r
def uptoBulkEntry {H : Type} : Lit × DataW H → Nat
  | (.string bytes, d) => bytes.length + uptoBulk d + 1
  | (_, d) => uptoBulk d + 1
 end
def uptoSmall : (H : Type) → List (DataW H) → Bool := fun _ ds => decide (uptoBulkAll ds ≤ 1048576)
def OpenSpec.upto (s : _root_.Go.ChangeSpec) : _root_.Go.OpenSpec := { _root_.Go.OpenSpec.ofChange s with cond := some uptoSmall }

/-- 'ordinatelaw28.LinearChecks', WHERE WHAT IT READS IS OF BULK AT MOST 1048576: true; the input reads as it did. -/
def linearChecksUptoRow : OpenClaim := { program := "ytjgmnoaalbbonaagreat", sum := "c333f84901c373409fd866649f681b1610c6e97e1d67e4d1ad18ec3fcf193eed", func := "ordinate/ordinatelaw28.LinearChecks", spec := "linearChecks", inPlace := ["slices.overlaps[int64]"], unfollowed := true, recurses := true, apart := false, narrowed := true }
def LinearChecksUptoSaid : Prop := linearChecksUptoRow.holds Tryz.pinned (OpenSpec.upto linearChecksSpec)

/-- 'ordinatelaw28.LinearCut', WHERE WHAT IT READS IS OF BULK AT MOST 1048576: true; the input reads as it did. -/
def linearCutUptoRow : OpenClaim := { program := "ytjgmnoaalbbonaagreat", sum := "c333f84901c373409fd866649f681b1610c6e97e1d67e4d1ad18ec3fcf193eed", func := "ordinate/ordinatelaw28.LinearCut", spec := "linearCut", inPlace := ["slices.overlaps[int64]"], unfollowed := true, recurses := true, apart := false, narrowed := true }
def LinearCutUptoSaid : Prop := linearCutUptoRow.holds Tryz.pinned (OpenSpec.upto linearCutSpec)

end Rows
end Go.Proofs.YtjgmnoaalbbonaaGreat
