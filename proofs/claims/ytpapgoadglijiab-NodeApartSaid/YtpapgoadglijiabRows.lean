/-
  No cell of these rows narrows 'for every input' (looked for: loops, veiled, ifaces, maps, wideKeys, modest, calm, conditions, laid).
  DERIVED. THE GIVEN ROWS OF THIS SEAT. 5 by the template 'for every input the law returns true; each argument reads behind the call as it read before'; 0 by the template 'total and deterministic' (their statements: YtpapgoadglijiabTotals.lean).
  GIVEN WITH THE SEED: the statements are not yours to turn. If you find one false, say at which input.
  Laid BY PROGRAM, IN A SANDBOX (cutbox-rows.mjs): the forced cells as the released guide's own fill.sh prints them over the translation 5e57bb803ff7a43a… (all of the seat's roots in one cut). By AI agents, Wed Nov 11 2026. No macro, syntax, notation, axiom, sorry.
-/
import Derived.Test.YtpapgoadglijiabChecked
import GoSem.Claim
import GoSem.ClaimJoined
import GoSem.ClaimMapViews
import Derived.JoinedTies
import Derived.KernelRfl
namespace Go.Proofs.Ytpapgoadglijiab
/- THE CELL 'sum', in the pinned program and in every row, IS THE sha256 OF THE DUMP (.gsa) THAT YtpapgoadglijiabProg.lean LOADS. Nothing in Lean hashes anything: it is a label: what it is worth is what the hold of that sum in a sandbox is worth. -/
noncomputable def Try.pinned : Pinned := { name := "ytpapgoadglijiab", sum := "5e57bb803ff7a43aac5c0d9f1951468521b881b42ab07865babea3e5a2b7a881", checked := Try.checked }
namespace Rows
def none {H : Type} : Left H := { results := [], args := [] }

/-- 'ordinatelaw8.NodeKnown': WHATEVER THE INPUT: true; the input reads as it did. -/
def nodeKnownSpec : ChangeSpec := { name := "nodeKnown", fn := fun _ => fun
  | [] => { results := [.lit (.bool true)], args := [] }
  | _ => none }
def nodeKnownRow : OpenClaim := { program := "ytpapgoadglijiab", sum := "5e57bb803ff7a43aac5c0d9f1951468521b881b42ab07865babea3e5a2b7a881", func := "ordinate/ordinatelaw8.NodeKnown", spec := "nodeKnown", unfollowed := true, recurses := true, apart := false }
def NodeKnownSaid : Prop := nodeKnownRow.holds Try.pinned (OpenSpec.ofChange nodeKnownSpec)

/-- ITS FALSE NEIGHBOUR: 'it returns false'. Refute it at one input. -/
def nodeKnownWrong : ChangeSpec := { name := "nodeKnown", fn := fun _ => fun
  | [] => { results := [.lit (.bool false)], args := [] }
  | _ => none }
def NodeKnownWrongFalsely : Prop := nodeKnownRow.holds Try.pinned (OpenSpec.ofChange nodeKnownWrong)

/-- 'ordinatelaw8.NodeTells': WHATEVER THE INPUT: true; the input reads as it did. -/
def nodeTellsSpec : ChangeSpec := { name := "nodeTells", fn := fun _ => fun
  | [d1, d2, d3, d4, d5, d6, d7, d8] => { results := [.lit (.bool true)], args := [d1, d2, d3, d4, d5, d6, d7, d8] }
  | _ => none }
def nodeTellsRow : OpenClaim := { program := "ytpapgoadglijiab", sum := "5e57bb803ff7a43aac5c0d9f1951468521b881b42ab07865babea3e5a2b7a881", func := "ordinate/ordinatelaw8.NodeTells", spec := "nodeTells", unfollowed := true, recurses := true, apart := false }
def NodeTellsSaid : Prop := nodeTellsRow.holds Try.pinned (OpenSpec.ofChange nodeTellsSpec)

/-- ITS FALSE NEIGHBOUR: 'it returns false'. Refute it at one input. -/
def nodeTellsWrong : ChangeSpec := { name := "nodeTells", fn := fun _ => fun
  | [d1, d2, d3, d4, d5, d6, d7, d8] => { results := [.lit (.bool false)], args := [d1, d2, d3, d4, d5, d6, d7, d8] }
  | _ => none }
def NodeTellsWrongFalsely : Prop := nodeTellsRow.holds Try.pinned (OpenSpec.ofChange nodeTellsWrong)

/-- 'ordinatelaw8.NodeApart': WHATEVER THE INPUT: true; the input reads as it did. -/
def nodeApartSpec : ChangeSpec := { name := "nodeApart", fn := fun _ => fun
  | [d1, d2, d3, d4] => { results := [.lit (.bool true)], args := [d1, d2, d3, d4] }
  | _ => none }
def nodeApartRow : OpenClaim := { program := "ytpapgoadglijiab", sum := "5e57bb803ff7a43aac5c0d9f1951468521b881b42ab07865babea3e5a2b7a881", func := "ordinate/ordinatelaw8.NodeApart", spec := "nodeApart", unfollowed := true, recurses := true, apart := false }
def NodeApartSaid : Prop := nodeApartRow.holds Try.pinned (OpenSpec.ofChange nodeApartSpec)

/-- ITS FALSE NEIGHBOUR: 'it returns false'. Refute it at one input. -/
def nodeApartWrong : ChangeSpec := { name := "nodeApart", fn := fun _ => fun
  | [d1, d2, d3, d4] => { results := [.lit (.bool false)], args := [d1, d2, d3, d4] }
  | _ => none }
def NodeApartWrongFalsely : Prop := nodeApartRow.holds Try.pinned (OpenSpec.ofChange nodeApartWrong)

/-- 'ordinatelaw8.NodePlaces': WHATEVER THE INPUT: true; the input reads as it did. -/
def nodePlacesSpec : ChangeSpec := { name := "nodePlaces", fn := fun _ => fun
  | [d1, d2, d3, d4] => { results := [.lit (.bool true)], args := [d1, d2, d3, d4] }
  | _ => none }
def nodePlacesRow : OpenClaim := { program := "ytpapgoadglijiab", sum := "5e57bb803ff7a43aac5c0d9f1951468521b881b42ab07865babea3e5a2b7a881", func := "ordinate/ordinatelaw8.NodePlaces", spec := "nodePlaces", unfollowed := true, recurses := true, apart := false }
def NodePlacesSaid : Prop := nodePlacesRow.holds Try.pinned (OpenSpec.ofChange nodePlacesSpec)

/-- ITS FALSE NEIGHBOUR: 'it returns false'. Refute it at one input. -/
def nodePlacesWrong : ChangeSpec := { name := "nodePlaces", fn := fun _ => fun
  | [d1, d2, d3, d4] => { results := [.lit (.bool false)], args := [d1, d2, d3, d4] }
  | _ => none }
def NodePlacesWrongFalsely : Prop := nodePlacesRow.holds Try.pinned (OpenSpec.ofChange nodePlacesWrong)

/-- 'ordinatelaw8.NodeBegin': WHATEVER THE INPUT: true; the input reads as it did. -/
def nodeBeginSpec : ChangeSpec := { name := "nodeBegin", fn := fun _ => fun
  | [d1, d2] => { results := [.lit (.bool true)], args := [d1, d2] }
  | _ => none }
def nodeBeginRow : OpenClaim := { program := "ytpapgoadglijiab", sum := "5e57bb803ff7a43aac5c0d9f1951468521b881b42ab07865babea3e5a2b7a881", func := "ordinate/ordinatelaw8.NodeBegin", spec := "nodeBegin", unfollowed := true, recurses := true, apart := false }
def NodeBeginSaid : Prop := nodeBeginRow.holds Try.pinned (OpenSpec.ofChange nodeBeginSpec)

/-- ITS FALSE NEIGHBOUR: 'it returns false'. Refute it at one input. -/
def nodeBeginWrong : ChangeSpec := { name := "nodeBegin", fn := fun _ => fun
  | [d1, d2] => { results := [.lit (.bool false)], args := [d1, d2] }
  | _ => none }
def NodeBeginWrongFalsely : Prop := nodeBeginRow.holds Try.pinned (OpenSpec.ofChange nodeBeginWrong)

/- THE SECOND FORM. 'bulk': how many values and letters a reading holds, each counted each time it is reached (what is shared counts as often as it is met; a slice's spare places count too). A statement '..UptoSaid' is the law's where the arguments, and the package variables that the reading takes, are together of bulk at most 1048576: NARROWER than '..Said'. Prove '..Said' where nothing that the law and all that it calls make is longer than what came in: it says more and counts as full. Else prove '..UptoSaid'. A law counts once. -/
mutual
def uptoBulk {H : Type} : DataW H → Nat
  | .lit (.string bytes) => bytes.length + 1
  | .lit _ => 1
  | .nil => 1
  | .ptr d => uptoBulk d + 1
  | .slice elems spare => uptoBulkAll elems + uptoBulkAll spare + 1
  | .agg parts => uptoBulkAll parts + 1
  | .iface _ d => uptoBulk d + 1
  | .map entries => uptoBulkEntries entries + 1
  | .held _ => 1
def uptoBulkAll {H : Type} : List (DataW H) → Nat
  | [] => 0
  | d :: r => uptoBulk d + uptoBulkAll r
def uptoBulkEntries {H : Type} : List (Lit × DataW H) → Nat
  | [] => 0
  | x :: r => uptoBulkEntry x + uptoBulkEntries r
def uptoBulkEntry {H : Type} : Lit × DataW H → Nat
  | (.string bytes, d) => bytes.length + uptoBulk d + 1
  | (_, d) => uptoBulk d + 1
 end
def uptoSmall : (H : Type) → List (DataW H) → Bool := fun _ ds => decide (uptoBulkAll ds ≤ 1048576)
def OpenSpec.upto (s : _root_.Go.ChangeSpec) : _root_.Go.OpenSpec := { _root_.Go.OpenSpec.ofChange s with cond := some uptoSmall }

/-- 'ordinatelaw8.NodeKnown', WHERE WHAT IT READS IS OF BULK AT MOST 1048576: true; the input reads as it did. -/
def nodeKnownUptoRow : OpenClaim := { program := "ytpapgoadglijiab", sum := "5e57bb803ff7a43aac5c0d9f1951468521b881b42ab07865babea3e5a2b7a881", func := "ordinate/ordinatelaw8.NodeKnown", spec := "nodeKnown", unfollowed := true, recurses := true, apart := false, narrowed := true }
def NodeKnownUptoSaid : Prop := nodeKnownUptoRow.holds Try.pinned (OpenSpec.upto nodeKnownSpec)

/-- 'ordinatelaw8.NodeTells', WHERE WHAT IT READS IS OF BULK AT MOST 1048576: true; the input reads as it did. -/
def nodeTellsUptoRow : OpenClaim := { program := "ytpapgoadglijiab", sum := "5e57bb803ff7a43aac5c0d9f1951468521b881b42ab07865babea3e5a2b7a881", func := "ordinate/ordinatelaw8.NodeTells", spec := "nodeTells", unfollowed := true, recurses := true, apart := false, narrowed := true }
def NodeTellsUptoSaid : Prop := nodeTellsUptoRow.holds Try.pinned (OpenSpec.upto nodeTellsSpec)

/-- 'ordinatelaw8.NodeApart', WHERE WHAT IT READS IS OF BULK AT MOST 1048576: true; the input reads as it did. -/
def nodeApartUptoRow : OpenClaim := { program := "ytpapgoadglijiab", sum := "5e57bb803ff7a43aac5c0d9f1951468521b881b42ab07865babea3e5a2b7a881", func := "ordinate/ordinatelaw8.NodeApart", spec := "nodeApart", unfollowed := true, recurses := true, apart := false, narrowed := true }
def NodeApartUptoSaid : Prop := nodeApartUptoRow.holds Try.pinned (OpenSpec.upto nodeApartSpec)

/-- 'ordinatelaw8.NodePlaces', WHERE WHAT IT READS IS OF BULK AT MOST 1048576: true; the input reads as it did. -/
def nodePlacesUptoRow : OpenClaim := { program := "ytpapgoadglijiab", sum := "5e57bb803ff7a43aac5c0d9f1951468521b881b42ab07865babea3e5a2b7a881", func := "ordinate/ordinatelaw8.NodePlaces", spec := "nodePlaces", unfollowed := true, recurses := true, apart := false, narrowed := true }
def NodePlacesUptoSaid : Prop := nodePlacesUptoRow.holds Try.pinned (OpenSpec.upto nodePlacesSpec)

/-- 'ordinatelaw8.NodeBegin', WHERE WHAT IT READS IS OF BULK AT MOST 1048576: true; the input reads as it did. -/
def nodeBeginUptoRow : OpenClaim := { program := "ytpapgoadglijiab", sum := "5e57bb803ff7a43aac5c0d9f1951468521b881b42ab07865babea3e5a2b7a881", func := "ordinate/ordinatelaw8.NodeBegin", spec := "nodeBegin", unfollowed := true, recurses := true, apart := false, narrowed := true }
def NodeBeginUptoSaid : Prop := nodeBeginUptoRow.holds Try.pinned (OpenSpec.upto nodeBeginSpec)

end Rows
end Go.Proofs.Ytpapgoadglijiab
