/-
  No cell of these rows narrows 'for every input' (looked for: loops, veiled, ifaces, maps, wideKeys, modest, calm, conditions, laid).
  DERIVED. THE GIVEN ROWS OF THIS SEAT. 4 by the template 'for every input the law returns true; each argument reads behind the call as it read before'; 0 by the template 'total and deterministic' (their statements: YtgakioiplkehgaaTotals.lean).
  GIVEN WITH THE SEED: the statements are not yours to turn. If you find one false, say at which input.
  Laid BY PROGRAM, IN A SANDBOX (cutbox-rows.mjs): the forced cells as the released guide's own fill.sh prints them over the translation 0924e8e9d682a4c5… (all of the seat's roots in one cut). By AI agents, Wed Nov 11 2026. No macro, syntax, notation, axiom, sorry.
-/
import Derived.Test.YtgakioiplkehgaaChecked
import GoSem.Claim
import GoSem.ClaimJoined
import GoSem.ClaimMapViews
import Derived.JoinedTies
import Derived.KernelRfl
namespace Go.Proofs.Ytgakioiplkehgaa
/- THE CELL 'sum', in the pinned program and in every row, IS THE sha256 OF THE DUMP (.gsa) THAT YtgakioiplkehgaaProg.lean LOADS. Nothing in Lean hashes anything: it is a label: what it is worth is what the hold of that sum in a sandbox is worth. -/
noncomputable def Try.pinned : Pinned := { name := "ytgakioiplkehgaa", sum := "0924e8e9d682a4c5af6f64062da697dc44fa8954a067f7c39d9af1ddc290886d", checked := Try.checked }
namespace Rows
def none {H : Type} : Left H := { results := [], args := [] }

/-- 'ordinatelaw28.LinearKnown': WHATEVER THE INPUT: true; the input reads as it did. -/
def linearKnownSpec : ChangeSpec := { name := "linearKnown", fn := fun _ => fun
  | [] => { results := [.lit (.bool true)], args := [] }
  | _ => none }
def linearKnownRow : OpenClaim := { program := "ytgakioiplkehgaa", sum := "0924e8e9d682a4c5af6f64062da697dc44fa8954a067f7c39d9af1ddc290886d", func := "ordinate/ordinatelaw28.LinearKnown", spec := "linearKnown", inPlace := ["slices.overlaps[int64]"], unfollowed := true, recurses := true, apart := false }
def LinearKnownSaid : Prop := linearKnownRow.holds Try.pinned (OpenSpec.ofChange linearKnownSpec)

/-- ITS FALSE NEIGHBOUR: 'it returns false'. Refute it at one input. -/
def linearKnownWrong : ChangeSpec := { name := "linearKnown", fn := fun _ => fun
  | [] => { results := [.lit (.bool false)], args := [] }
  | _ => none }
def LinearKnownWrongFalsely : Prop := linearKnownRow.holds Try.pinned (OpenSpec.ofChange linearKnownWrong)

/-- 'ordinatelaw28.LinearRaw': WHATEVER THE INPUT: true; the input reads as it did. -/
def linearRawSpec : ChangeSpec := { name := "linearRaw", fn := fun _ => fun
  | [d1, d2] => { results := [.lit (.bool true)], args := [d1, d2] }
  | _ => none }
def linearRawRow : OpenClaim := { program := "ytgakioiplkehgaa", sum := "0924e8e9d682a4c5af6f64062da697dc44fa8954a067f7c39d9af1ddc290886d", func := "ordinate/ordinatelaw28.LinearRaw", spec := "linearRaw", inPlace := ["slices.overlaps[int64]"], unfollowed := true, recurses := true, apart := false }
def LinearRawSaid : Prop := linearRawRow.holds Try.pinned (OpenSpec.ofChange linearRawSpec)

/-- ITS FALSE NEIGHBOUR: 'it returns false'. Refute it at one input. -/
def linearRawWrong : ChangeSpec := { name := "linearRaw", fn := fun _ => fun
  | [d1, d2] => { results := [.lit (.bool false)], args := [d1, d2] }
  | _ => none }
def LinearRawWrongFalsely : Prop := linearRawRow.holds Try.pinned (OpenSpec.ofChange linearRawWrong)

/-- 'ordinatelaw28.LinearTells': WHATEVER THE INPUT: true; the input reads as it did. -/
def linearTellsSpec : ChangeSpec := { name := "linearTells", fn := fun _ => fun
  | [d1, d2, d3, d4, d5] => { results := [.lit (.bool true)], args := [d1, d2, d3, d4, d5] }
  | _ => none }
def linearTellsRow : OpenClaim := { program := "ytgakioiplkehgaa", sum := "0924e8e9d682a4c5af6f64062da697dc44fa8954a067f7c39d9af1ddc290886d", func := "ordinate/ordinatelaw28.LinearTells", spec := "linearTells", inPlace := ["slices.overlaps[int64]"], unfollowed := true, recurses := true, apart := false }
def LinearTellsSaid : Prop := linearTellsRow.holds Try.pinned (OpenSpec.ofChange linearTellsSpec)

/-- ITS FALSE NEIGHBOUR: 'it returns false'. Refute it at one input. -/
def linearTellsWrong : ChangeSpec := { name := "linearTells", fn := fun _ => fun
  | [d1, d2, d3, d4, d5] => { results := [.lit (.bool false)], args := [d1, d2, d3, d4, d5] }
  | _ => none }
def LinearTellsWrongFalsely : Prop := linearTellsRow.holds Try.pinned (OpenSpec.ofChange linearTellsWrong)

/-- 'ordinatelaw28.LinearOrder': WHATEVER THE INPUT: true; the input reads as it did. -/
def linearOrderSpec : ChangeSpec := { name := "linearOrder", fn := fun _ => fun
  | [d1, d2] => { results := [.lit (.bool true)], args := [d1, d2] }
  | _ => none }
def linearOrderRow : OpenClaim := { program := "ytgakioiplkehgaa", sum := "0924e8e9d682a4c5af6f64062da697dc44fa8954a067f7c39d9af1ddc290886d", func := "ordinate/ordinatelaw28.LinearOrder", spec := "linearOrder", inPlace := ["slices.overlaps[int64]"], unfollowed := true, recurses := true, apart := false }
def LinearOrderSaid : Prop := linearOrderRow.holds Try.pinned (OpenSpec.ofChange linearOrderSpec)

/-- ITS FALSE NEIGHBOUR: 'it returns false'. Refute it at one input. -/
def linearOrderWrong : ChangeSpec := { name := "linearOrder", fn := fun _ => fun
  | [d1, d2] => { results := [.lit (.bool false)], args := [d1, d2] }
  | _ => none }
def LinearOrderWrongFalsely : Prop := linearOrderRow.holds Try.pinned (OpenSpec.ofChange linearOrderWrong)

/- THE SECOND FORM. 'bulk': how many values and letters a reading holds, each counted each time it is reached (what is shared counts as often as it is met; a slice's spare places count too). A statement '..UptoSaid' is the law's where the arguments, and the package variables that the reading takes, are together of bulk at most 1048576: NARROWER than '..Said'. Prove '..Said' where nothing that the law and all that it calls make is longer than what came in: it says more and counts as full. Else prove '..UptoSaid'. A law counts once. -/
mutual
def uptoBulk {H : Type} : DataW H → Nat
  | .lit (.string bytes) => bytes.length + 1
  | .lit _ => 1
  | .nil => 1
  | .ptr d => uptoBulk d + 1
  | .slice elems spare => uptoBulkAll elems + uptoBulkAll spare + 1
  | .agg parts => uptoBulkAll parts + 1
  | .iface _ d => uptoBulk d + 1
  | .map entries => uptoBulkEntries entries + 1
  | .held _ => 1
def uptoBulkAll {H : Type} : List (DataW H) → Nat
  | [] => 0
  | d :: r => uptoBulk d + uptoBulkAll r
def uptoBulkEntries {H : Type} : List (Lit × DataW H) → Nat
  | [] => 0
  | x :: r => uptoBulkEntry x + uptoBulkEntries r
def uptoBulkEntry {H : Type} : Lit × DataW H → Nat
  | (.string bytes, d) => bytes.length + uptoBulk d + 1
  | (_, d) => uptoBulk d + 1
 end
def uptoSmall : (H : Type) → List (DataW H) → Bool := fun _ ds => decide (uptoBulkAll ds ≤ 1048576)
def OpenSpec.upto (s : _root_.Go.ChangeSpec) : _root_.Go.OpenSpec := { _root_.Go.OpenSpec.ofChange s with cond := some uptoSmall }

/-- 'ordinatelaw28.LinearKnown', WHERE WHAT IT READS IS OF BULK AT MOST 1048576: true; the input reads as it did. -/
def linearKnownUptoRow : OpenClaim := { program := "ytgakioiplkehgaa", sum := "0924e8e9d682a4c5af6f64062da697dc44fa8954a067f7c39d9af1ddc290886d", func := "ordinate/ordinatelaw28.LinearKnown", spec := "linearKnown", inPlace := ["slices.overlaps[int64]"], unfollowed := true, recurses := true, apart := false, narrowed := true }
def LinearKnownUptoSaid : Prop := linearKnownUptoRow.holds Try.pinned (OpenSpec.upto linearKnownSpec)

/-- 'ordinatelaw28.LinearRaw', WHERE WHAT IT READS IS OF BULK AT MOST 1048576: true; the input reads as it did. -/
def linearRawUptoRow : OpenClaim := { program := "ytgakioiplkehgaa", sum := "0924e8e9d682a4c5af6f64062da697dc44fa8954a067f7c39d9af1ddc290886d", func := "ordinate/ordinatelaw28.LinearRaw", spec := "linearRaw", inPlace := ["slices.overlaps[int64]"], unfollowed := true, recurses := true, apart := false, narrowed := true }
def LinearRawUptoSaid : Prop := linearRawUptoRow.holds Try.pinned (OpenSpec.upto linearRawSpec)

/-- 'ordinatelaw28.LinearTells', WHERE WHAT IT READS IS OF BULK AT MOST 1048576: true; the input reads as it did. -/
def linearTellsUptoRow : OpenClaim := { program := "ytgakioiplkehgaa", sum := "0924e8e9d682a4c5af6f64062da697dc44fa8954a067f7c39d9af1ddc290886d", func := "ordinate/ordinatelaw28.LinearTells", spec := "linearTells", inPlace := ["slices.overlaps[int64]"], unfollowed := true, recurses := true, apart := false, narrowed := true }
def LinearTellsUptoSaid : Prop := linearTellsUptoRow.holds Try.pinned (OpenSpec.upto linearTellsSpec)

/-- 'ordinatelaw28.LinearOrder', WHERE WHAT IT READS IS OF BULK AT MOST 1048576: true; the input reads as it did. -/
def linearOrderUptoRow : OpenClaim := { program := "ytgakioiplkehgaa", sum := "0924e8e9d682a4c5af6f64062da697dc44fa8954a067f7c39d9af1ddc290886d", func := "ordinate/ordinatelaw28.LinearOrder", spec := "linearOrder", inPlace := ["slices.overlaps[int64]"], unfollowed := true, recurses := true, apart := false, narrowed := true }
def LinearOrderUptoSaid : Prop := linearOrderUptoRow.holds Try.pinned (OpenSpec.upto linearOrderSpec)

end Rows
end Go.Proofs.Ytgakioiplkehgaa
