/-
  No cell of these rows narrows 'for every input' (looked for: loops, veiled, ifaces, maps, wideKeys, modest, calm, conditions, laid).
  DERIVED. THE GIVEN ROWS OF THIS SEAT. 8 by the template 'for every input the law returns true; each argument reads behind the call as it read before'; 0 by the template 'total and deterministic' (their statements: YtdkihlamcjegeaaTotals.lean).
  GIVEN WITH THE SEED: the statements are not yours to turn. If you find one false, say at which input.
  Laid BY PROGRAM, IN A SANDBOX (cutbox-rows.mjs): the forced cells as the released guide's own fill.sh prints them over the translation 05a418ca5e87d744… (all of the seat's roots in one cut). By AI agents, Wed Nov 11 2026. No macro, syntax, notation, axiom, sorry.
-/
import Derived.Test.YtdkihlamcjegeaaChecked
import GoSem.Claim
import GoSem.ClaimJoined
import GoSem.ClaimMapViews
import Derived.JoinedTies
import Derived.KernelRfl
namespace Go.Proofs.Ytdkihlamcjegeaa
/- THE CELL 'sum', in the pinned program and in every row, IS THE sha256 OF THE DUMP (.gsa) THAT YtdkihlamcjegeaaProg.lean LOADS. Nothing in Lean hashes anything: it is a label: what it is worth is what the hold of that sum in a sandbox is worth. -/
noncomputable def Try.pinned : Pinned := { name := "ytdkihlamcjegeaa", sum := "05a418ca5e87d74408ac68e1102ee32109d3df684f50aebd68c9d94fc0b7861b", checked := Try.checked }
namespace Rows
def none {H : Type} : Left H := { results := [], args := [] }

/-- 'ordinatelaw11.PeekKnown': WHATEVER THE INPUT: true; the input reads as it did. -/
def peekKnownSpec : ChangeSpec := { name := "peekKnown", fn := fun _ => fun
  | [] => { results := [.lit (.bool true)], args := [] }
  | _ => none }
def peekKnownRow : OpenClaim := { program := "ytdkihlamcjegeaa", sum := "05a418ca5e87d74408ac68e1102ee32109d3df684f50aebd68c9d94fc0b7861b", func := "ordinate/ordinatelaw11.PeekKnown", spec := "peekKnown", apart := false }
def PeekKnownSaid : Prop := peekKnownRow.holds Try.pinned (OpenSpec.ofChange peekKnownSpec)

/-- ITS FALSE NEIGHBOUR: 'it returns false'. Refute it at one input. -/
def peekKnownWrong : ChangeSpec := { name := "peekKnown", fn := fun _ => fun
  | [] => { results := [.lit (.bool false)], args := [] }
  | _ => none }
def PeekKnownWrongFalsely : Prop := peekKnownRow.holds Try.pinned (OpenSpec.ofChange peekKnownWrong)

/-- 'ordinatelaw12.HelpKnown': WHATEVER THE INPUT: true; the input reads as it did. -/
def helpKnownSpec : ChangeSpec := { name := "helpKnown", fn := fun _ => fun
  | [] => { results := [.lit (.bool true)], args := [] }
  | _ => none }
def helpKnownRow : OpenClaim := { program := "ytdkihlamcjegeaa", sum := "05a418ca5e87d74408ac68e1102ee32109d3df684f50aebd68c9d94fc0b7861b", func := "ordinate/ordinatelaw12.HelpKnown", spec := "helpKnown", apart := false }
def HelpKnownSaid : Prop := helpKnownRow.holds Try.pinned (OpenSpec.ofChange helpKnownSpec)

/-- ITS FALSE NEIGHBOUR: 'it returns false'. Refute it at one input. -/
def helpKnownWrong : ChangeSpec := { name := "helpKnown", fn := fun _ => fun
  | [] => { results := [.lit (.bool false)], args := [] }
  | _ => none }
def HelpKnownWrongFalsely : Prop := helpKnownRow.holds Try.pinned (OpenSpec.ofChange helpKnownWrong)

/-- 'ordinatelaw14.DcssKnown': WHATEVER THE INPUT: true; the input reads as it did. -/
def dcssKnownSpec : ChangeSpec := { name := "dcssKnown", fn := fun _ => fun
  | [] => { results := [.lit (.bool true)], args := [] }
  | _ => none }
def dcssKnownRow : OpenClaim := { program := "ytdkihlamcjegeaa", sum := "05a418ca5e87d74408ac68e1102ee32109d3df684f50aebd68c9d94fc0b7861b", func := "ordinate/ordinatelaw14.DcssKnown", spec := "dcssKnown", apart := false }
def DcssKnownSaid : Prop := dcssKnownRow.holds Try.pinned (OpenSpec.ofChange dcssKnownSpec)

/-- ITS FALSE NEIGHBOUR: 'it returns false'. Refute it at one input. -/
def dcssKnownWrong : ChangeSpec := { name := "dcssKnown", fn := fun _ => fun
  | [] => { results := [.lit (.bool false)], args := [] }
  | _ => none }
def DcssKnownWrongFalsely : Prop := dcssKnownRow.holds Try.pinned (OpenSpec.ofChange dcssKnownWrong)

/-- 'ordinatelaw12.HelpOnce': WHATEVER THE INPUT: true; the input reads as it did. -/
def helpOnceSpec : ChangeSpec := { name := "helpOnce", fn := fun _ => fun
  | [d1, d2, d3, d4] => { results := [.lit (.bool true)], args := [d1, d2, d3, d4] }
  | _ => none }
def helpOnceRow : OpenClaim := { program := "ytdkihlamcjegeaa", sum := "05a418ca5e87d74408ac68e1102ee32109d3df684f50aebd68c9d94fc0b7861b", func := "ordinate/ordinatelaw12.HelpOnce", spec := "helpOnce", apart := false }
def HelpOnceSaid : Prop := helpOnceRow.holds Try.pinned (OpenSpec.ofChange helpOnceSpec)

/-- ITS FALSE NEIGHBOUR: 'it returns false'. Refute it at one input. -/
def helpOnceWrong : ChangeSpec := { name := "helpOnce", fn := fun _ => fun
  | [d1, d2, d3, d4] => { results := [.lit (.bool false)], args := [d1, d2, d3, d4] }
  | _ => none }
def HelpOnceWrongFalsely : Prop := helpOnceRow.holds Try.pinned (OpenSpec.ofChange helpOnceWrong)

/-- 'ordinatelaw14.DcssAlone': WHATEVER THE INPUT: true; the input reads as it did. -/
def dcssAloneSpec : ChangeSpec := { name := "dcssAlone", fn := fun _ => fun
  | [d1, d2, d3, d4] => { results := [.lit (.bool true)], args := [d1, d2, d3, d4] }
  | _ => none }
def dcssAloneRow : OpenClaim := { program := "ytdkihlamcjegeaa", sum := "05a418ca5e87d74408ac68e1102ee32109d3df684f50aebd68c9d94fc0b7861b", func := "ordinate/ordinatelaw14.DcssAlone", spec := "dcssAlone", apart := false }
def DcssAloneSaid : Prop := dcssAloneRow.holds Try.pinned (OpenSpec.ofChange dcssAloneSpec)

/-- ITS FALSE NEIGHBOUR: 'it returns false'. Refute it at one input. -/
def dcssAloneWrong : ChangeSpec := { name := "dcssAlone", fn := fun _ => fun
  | [d1, d2, d3, d4] => { results := [.lit (.bool false)], args := [d1, d2, d3, d4] }
  | _ => none }
def DcssAloneWrongFalsely : Prop := dcssAloneRow.holds Try.pinned (OpenSpec.ofChange dcssAloneWrong)

/-- 'ordinatelaw14.DcssRoom': WHATEVER THE INPUT: true; the input reads as it did. -/
def dcssRoomSpec : ChangeSpec := { name := "dcssRoom", fn := fun _ => fun
  | [d1, d2, d3] => { results := [.lit (.bool true)], args := [d1, d2, d3] }
  | _ => none }
def dcssRoomRow : OpenClaim := { program := "ytdkihlamcjegeaa", sum := "05a418ca5e87d74408ac68e1102ee32109d3df684f50aebd68c9d94fc0b7861b", func := "ordinate/ordinatelaw14.DcssRoom", spec := "dcssRoom", apart := false }
def DcssRoomSaid : Prop := dcssRoomRow.holds Try.pinned (OpenSpec.ofChange dcssRoomSpec)

/-- ITS FALSE NEIGHBOUR: 'it returns false'. Refute it at one input. -/
def dcssRoomWrong : ChangeSpec := { name := "dcssRoom", fn := fun _ => fun
  | [d1, d2, d3] => { results := [.lit (.bool false)], args := [d1, d2, d3] }
  | _ => none }
def DcssRoomWrongFalsely : Prop := dcssRoomRow.holds Try.pinned (OpenSpec.ofChange dcssRoomWrong)

/-- 'ordinatelaw13.ReadKnown': WHATEVER THE INPUT: true; the input reads as it did. -/
def readKnownSpec : ChangeSpec := { name := "readKnown", fn := fun _ => fun
  | [] => { results := [.lit (.bool true)], args := [] }
  | _ => none }
def readKnownRow : OpenClaim := { program := "ytdkihlamcjegeaa", sum := "05a418ca5e87d74408ac68e1102ee32109d3df684f50aebd68c9d94fc0b7861b", func := "ordinate/ordinatelaw13.ReadKnown", spec := "readKnown", apart := false }
def ReadKnownSaid : Prop := readKnownRow.holds Try.pinned (OpenSpec.ofChange readKnownSpec)

/-- ITS FALSE NEIGHBOUR: 'it returns false'. Refute it at one input. -/
def readKnownWrong : ChangeSpec := { name := "readKnown", fn := fun _ => fun
  | [] => { results := [.lit (.bool false)], args := [] }
  | _ => none }
def ReadKnownWrongFalsely : Prop := readKnownRow.holds Try.pinned (OpenSpec.ofChange readKnownWrong)

/-- 'ordinatelaw14.DcssMany': WHATEVER THE INPUT: true; the input reads as it did. -/
def dcssManySpec : ChangeSpec := { name := "dcssMany", fn := fun _ => fun
  | [d1, d2] => { results := [.lit (.bool true)], args := [d1, d2] }
  | _ => none }
def dcssManyRow : OpenClaim := { program := "ytdkihlamcjegeaa", sum := "05a418ca5e87d74408ac68e1102ee32109d3df684f50aebd68c9d94fc0b7861b", func := "ordinate/ordinatelaw14.DcssMany", spec := "dcssMany", apart := false }
def DcssManySaid : Prop := dcssManyRow.holds Try.pinned (OpenSpec.ofChange dcssManySpec)

/-- ITS FALSE NEIGHBOUR: 'it returns false'. Refute it at one input. -/
def dcssManyWrong : ChangeSpec := { name := "dcssMany", fn := fun _ => fun
  | [d1, d2] => { results := [.lit (.bool false)], args := [d1, d2] }
  | _ => none }
def DcssManyWrongFalsely : Prop := dcssManyRow.holds Try.pinned (OpenSpec.ofChange dcssManyWrong)

/- THE SECOND FORM. 'bulk': how many values and letters a reading holds, each counted each time it is reached (what is shared counts as often as it is met; a slice's spare places count too). A statement '..UptoSaid' is the law's where the arguments, and the package variables that the reading takes, are together of bulk at most 1048576: NARROWER than '..Said'. Prove '..Said' where nothing that the law and all that it calls make is longer than what came in: it says more and counts as full. Else prove '..UptoSaid'. A law counts once. -/
mutual
def uptoBulk {H : Type} : DataW H → Nat
  | .lit (.string bytes) => bytes.length + 1
  | .lit _ => 1
  | .nil => 1
  | .ptr d => uptoBulk d + 1
  | .slice elems spare => uptoBulkAll elems + uptoBulkAll spare + 1
  | .agg parts => uptoBulkAll parts + 1
  | .iface _ d => uptoBulk d + 1
  | .map entries => uptoBulkEntries entries + 1
  | .held _ => 1
def uptoBulkAll {H : Type} : List (DataW H) → Nat
  | [] => 0
  | d :: r => uptoBulk d + uptoBulkAll r
def uptoBulkEntries {H : Type} : List (Lit × DataW H) → Nat
  | [] => 0
  | x :: r => uptoBulkEntry x + uptoBulkEntries r
def uptoBulkEntry {H : Type} : Lit × DataW H → Nat
  | (.string bytes, d) => bytes.length + uptoBulk d + 1
  | (_, d) => uptoBulk d + 1
 end
def uptoSmall : (H : Type) → List (DataW H) → Bool := fun _ ds => decide (uptoBulkAll ds ≤ 1048576)
def OpenSpec.upto (s : _root_.Go.ChangeSpec) : _root_.Go.OpenSpec := { _root_.Go.OpenSpec.ofChange s with cond := some uptoSmall }

/-- 'ordinatelaw11.PeekKnown', WHERE WHAT IT READS IS OF BULK AT MOST 1048576: true; the input reads as it did. -/
def peekKnownUptoRow : OpenClaim := { program := "ytdkihlamcjegeaa", sum := "05a418ca5e87d74408ac68e1102ee32109d3df684f50aebd68c9d94fc0b7861b", func := "ordinate/ordinatelaw11.PeekKnown", spec := "peekKnown", apart := false, narrowed := true }
def PeekKnownUptoSaid : Prop := peekKnownUptoRow.holds Try.pinned (OpenSpec.upto peekKnownSpec)

/-- 'ordinatelaw12.HelpKnown', WHERE WHAT IT READS IS OF BULK AT MOST 1048576: true; the input reads as it did. -/
def helpKnownUptoRow : OpenClaim := { program := "ytdkihlamcjegeaa", sum := "05a418ca5e87d74408ac68e1102ee32109d3df684f50aebd68c9d94fc0b7861b", func := "ordinate/ordinatelaw12.HelpKnown", spec := "helpKnown", apart := false, narrowed := true }
def HelpKnownUptoSaid : Prop := helpKnownUptoRow.holds Try.pinned (OpenSpec.upto helpKnownSpec)

/-- 'ordinatelaw14.DcssKnown', WHERE WHAT IT READS IS OF BULK AT MOST 1048576: true; the input reads as it did. -/
def dcssKnownUptoRow : OpenClaim := { program := "ytdkihlamcjegeaa", sum := "05a418ca5e87d74408ac68e1102ee32109d3df684f50aebd68c9d94fc0b7861b", func := "ordinate/ordinatelaw14.DcssKnown", spec := "dcssKnown", apart := false, narrowed := true }
def DcssKnownUptoSaid : Prop := dcssKnownUptoRow.holds Try.pinned (OpenSpec.upto dcssKnownSpec)

/-- 'ordinatelaw12.HelpOnce', WHERE WHAT IT READS IS OF BULK AT MOST 1048576: true; the input reads as it did. -/
def helpOnceUptoRow : OpenClaim := { program := "ytdkihlamcjegeaa", sum := "05a418ca5e87d74408ac68e1102ee32109d3df684f50aebd68c9d94fc0b7861b", func := "ordinate/ordinatelaw12.HelpOnce", spec := "helpOnce", apart := false, narrowed := true }
def HelpOnceUptoSaid : Prop := helpOnceUptoRow.holds Try.pinned (OpenSpec.upto helpOnceSpec)

/-- 'ordinatelaw14.DcssAlone', WHERE WHAT IT READS IS OF BULK AT MOST 1048576: true; the input reads as it did. -/
def dcssAloneUptoRow : OpenClaim := { program := "ytdkihlamcjegeaa", sum := "05a418ca5e87d74408ac68e1102ee32109d3df684f50aebd68c9d94fc0b7861b", func := "ordinate/ordinatelaw14.DcssAlone", spec := "dcssAlone", apart := false, narrowed := true }
def DcssAloneUptoSaid : Prop := dcssAloneUptoRow.holds Try.pinned (OpenSpec.upto dcssAloneSpec)

/-- 'ordinatelaw14.DcssRoom', WHERE WHAT IT READS IS OF BULK AT MOST 1048576: true; the input reads as it did. -/
def dcssRoomUptoRow : OpenClaim := { program := "ytdkihlamcjegeaa", sum := "05a418ca5e87d74408ac68e1102ee32109d3df684f50aebd68c9d94fc0b7861b", func := "ordinate/ordinatelaw14.DcssRoom", spec := "dcssRoom", apart := false, narrowed := true }
def DcssRoomUptoSaid : Prop := dcssRoomUptoRow.holds Try.pinned (OpenSpec.upto dcssRoomSpec)

/-- 'ordinatelaw13.ReadKnown', WHERE WHAT IT READS IS OF BULK AT MOST 1048576: true; the input reads as it did. -/
def readKnownUptoRow : OpenClaim := { program := "ytdkihlamcjegeaa", sum := "05a418ca5e87d74408ac68e1102ee32109d3df684f50aebd68c9d94fc0b7861b", func := "ordinate/ordinatelaw13.ReadKnown", spec := "readKnown", apart := false, narrowed := true }
def ReadKnownUptoSaid : Prop := readKnownUptoRow.holds Try.pinned (OpenSpec.upto readKnownSpec)

/-- 'ordinatelaw14.DcssMany', WHERE WHAT IT READS IS OF BULK AT MOST 1048576: true; the input reads as it did. -/
def dcssManyUptoRow : OpenClaim := { program := "ytdkihlamcjegeaa", sum := "05a418ca5e87d74408ac68e1102ee32109d3df684f50aebd68c9d94fc0b7861b", func := "ordinate/ordinatelaw14.DcssMany", spec := "dcssMany", apart := false, narrowed := true }
def DcssManyUptoSaid : Prop := dcssManyUptoRow.holds Try.pinned (OpenSpec.upto dcssManySpec)

end Rows
end Go.Proofs.Ytdkihlamcjegeaa
