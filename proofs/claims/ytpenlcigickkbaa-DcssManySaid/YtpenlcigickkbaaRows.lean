/-
  No cell of these rows narrows 'for every input' (looked for: loops, veiled, ifaces, maps, wideKeys, modest, calm, conditions, laid).
  DERIVED. THE GIVEN ROWS OF THIS SEAT. 12 by the template 'for every input the law returns true; each argument reads behind the call as it read before'; 0 by the template 'total and deterministic' (their statements: YtpenlcigickkbaaTotals.lean).
  GIVEN WITH THE SEED: the statements are not yours to turn. If you find one false, say at which input.
  Laid BY PROGRAM, IN A SANDBOX (cutbox-rows.mjs): the forced cells as the released guide's own fill.sh prints them over the translation cbc970b4b1d17f4c… (all of the seat's roots in one cut). By AI agents, Wed Nov 11 2026. No macro, syntax, notation, axiom, sorry.
-/
import Derived.Test.YtpenlcigickkbaaChecked
import GoSem.Claim
import GoSem.ClaimJoined
import GoSem.ClaimMapViews
import Derived.JoinedTies
import Derived.KernelRfl
namespace Go.Proofs.Ytpenlcigickkbaa
/- THE CELL 'sum', in the pinned program and in every row, IS THE sha256 OF THE DUMP (.gsa) THAT YtpenlcigickkbaaProg.lean LOADS. Nothing in Lean hashes anything: it is a label: what it is worth is what the hold of that sum in a sandbox is worth. -/
noncomputable def Try.pinned : Pinned := { name := "ytpenlcigickkbaa", sum := "cbc970b4b1d17f4c0723a8d1679ae0b1856433d224dc1ff6459364ea09bc3920", checked := Try.checked }
namespace Rows
def none {H : Type} : Left H := { results := [], args := [] }

/-- 'ordinatelaw7.MemFresh': WHATEVER THE INPUT: true; the input reads as it did. -/
def memFreshSpec : ChangeSpec := { name := "memFresh", fn := fun _ => fun
  | [d1, d2] => { results := [.lit (.bool true)], args := [d1, d2] }
  | _ => none }
def memFreshRow : OpenClaim := { program := "ytpenlcigickkbaa", sum := "cbc970b4b1d17f4c0723a8d1679ae0b1856433d224dc1ff6459364ea09bc3920", func := "ordinate/ordinatelaw7.MemFresh", spec := "memFresh", apart := false }
def MemFreshSaid : Prop := memFreshRow.holds Try.pinned (OpenSpec.ofChange memFreshSpec)

/-- ITS FALSE NEIGHBOUR: 'it returns false'. Refute it at one input. -/
def memFreshWrong : ChangeSpec := { name := "memFresh", fn := fun _ => fun
  | [d1, d2] => { results := [.lit (.bool false)], args := [d1, d2] }
  | _ => none }
def MemFreshWrongFalsely : Prop := memFreshRow.holds Try.pinned (OpenSpec.ofChange memFreshWrong)

/-- 'ordinatelaw7.MemOdd': WHATEVER THE INPUT: true; the input reads as it did. -/
def memOddSpec : ChangeSpec := { name := "memOdd", fn := fun _ => fun
  | [d1, d2, d3, d4] => { results := [.lit (.bool true)], args := [d1, d2, d3, d4] }
  | _ => none }
def memOddRow : OpenClaim := { program := "ytpenlcigickkbaa", sum := "cbc970b4b1d17f4c0723a8d1679ae0b1856433d224dc1ff6459364ea09bc3920", func := "ordinate/ordinatelaw7.MemOdd", spec := "memOdd", apart := false }
def MemOddSaid : Prop := memOddRow.holds Try.pinned (OpenSpec.ofChange memOddSpec)

/-- ITS FALSE NEIGHBOUR: 'it returns false'. Refute it at one input. -/
def memOddWrong : ChangeSpec := { name := "memOdd", fn := fun _ => fun
  | [d1, d2, d3, d4] => { results := [.lit (.bool false)], args := [d1, d2, d3, d4] }
  | _ => none }
def MemOddWrongFalsely : Prop := memOddRow.holds Try.pinned (OpenSpec.ofChange memOddWrong)

/-- 'ordinatelaw7.MemOne': WHATEVER THE INPUT: true; the input reads as it did. -/
def memOneSpec : ChangeSpec := { name := "memOne", fn := fun _ => fun
  | [d1, d2] => { results := [.lit (.bool true)], args := [d1, d2] }
  | _ => none }
def memOneRow : OpenClaim := { program := "ytpenlcigickkbaa", sum := "cbc970b4b1d17f4c0723a8d1679ae0b1856433d224dc1ff6459364ea09bc3920", func := "ordinate/ordinatelaw7.MemOne", spec := "memOne", apart := false }
def MemOneSaid : Prop := memOneRow.holds Try.pinned (OpenSpec.ofChange memOneSpec)

/-- ITS FALSE NEIGHBOUR: 'it returns false'. Refute it at one input. -/
def memOneWrong : ChangeSpec := { name := "memOne", fn := fun _ => fun
  | [d1, d2] => { results := [.lit (.bool false)], args := [d1, d2] }
  | _ => none }
def MemOneWrongFalsely : Prop := memOneRow.holds Try.pinned (OpenSpec.ofChange memOneWrong)

/-- 'ordinatelaw7.MemPlays': WHATEVER THE INPUT: true; the input reads as it did. -/
def memPlaysSpec : ChangeSpec := { name := "memPlays", fn := fun _ => fun
  | [d1, d2, d3] => { results := [.lit (.bool true)], args := [d1, d2, d3] }
  | _ => none }
def memPlaysRow : OpenClaim := { program := "ytpenlcigickkbaa", sum := "cbc970b4b1d17f4c0723a8d1679ae0b1856433d224dc1ff6459364ea09bc3920", func := "ordinate/ordinatelaw7.MemPlays", spec := "memPlays", apart := false }
def MemPlaysSaid : Prop := memPlaysRow.holds Try.pinned (OpenSpec.ofChange memPlaysSpec)

/-- ITS FALSE NEIGHBOUR: 'it returns false'. Refute it at one input. -/
def memPlaysWrong : ChangeSpec := { name := "memPlays", fn := fun _ => fun
  | [d1, d2, d3] => { results := [.lit (.bool false)], args := [d1, d2, d3] }
  | _ => none }
def MemPlaysWrongFalsely : Prop := memPlaysRow.holds Try.pinned (OpenSpec.ofChange memPlaysWrong)

/-- 'ordinatelaw7.MemApart': WHATEVER THE INPUT: true; the input reads as it did. -/
def memApartSpec : ChangeSpec := { name := "memApart", fn := fun _ => fun
  | [d1, d2, d3] => { results := [.lit (.bool true)], args := [d1, d2, d3] }
  | _ => none }
def memApartRow : OpenClaim := { program := "ytpenlcigickkbaa", sum := "cbc970b4b1d17f4c0723a8d1679ae0b1856433d224dc1ff6459364ea09bc3920", func := "ordinate/ordinatelaw7.MemApart", spec := "memApart", apart := false }
def MemApartSaid : Prop := memApartRow.holds Try.pinned (OpenSpec.ofChange memApartSpec)

/-- ITS FALSE NEIGHBOUR: 'it returns false'. Refute it at one input. -/
def memApartWrong : ChangeSpec := { name := "memApart", fn := fun _ => fun
  | [d1, d2, d3] => { results := [.lit (.bool false)], args := [d1, d2, d3] }
  | _ => none }
def MemApartWrongFalsely : Prop := memApartRow.holds Try.pinned (OpenSpec.ofChange memApartWrong)

/-- 'ordinatelaw8.NodeTells': WHATEVER THE INPUT: true; the input reads as it did. -/
def nodeTellsSpec : ChangeSpec := { name := "nodeTells", fn := fun _ => fun
  | [d1, d2, d3, d4, d5, d6, d7, d8] => { results := [.lit (.bool true)], args := [d1, d2, d3, d4, d5, d6, d7, d8] }
  | _ => none }
def nodeTellsRow : OpenClaim := { program := "ytpenlcigickkbaa", sum := "cbc970b4b1d17f4c0723a8d1679ae0b1856433d224dc1ff6459364ea09bc3920", func := "ordinate/ordinatelaw8.NodeTells", spec := "nodeTells", unfollowed := true, recurses := true, apart := false }
def NodeTellsSaid : Prop := nodeTellsRow.holds Try.pinned (OpenSpec.ofChange nodeTellsSpec)

/-- ITS FALSE NEIGHBOUR: 'it returns false'. Refute it at one input. -/
def nodeTellsWrong : ChangeSpec := { name := "nodeTells", fn := fun _ => fun
  | [d1, d2, d3, d4, d5, d6, d7, d8] => { results := [.lit (.bool false)], args := [d1, d2, d3, d4, d5, d6, d7, d8] }
  | _ => none }
def NodeTellsWrongFalsely : Prop := nodeTellsRow.holds Try.pinned (OpenSpec.ofChange nodeTellsWrong)

/-- 'ordinatelaw8.NodePlaces': WHATEVER THE INPUT: true; the input reads as it did. -/
def nodePlacesSpec : ChangeSpec := { name := "nodePlaces", fn := fun _ => fun
  | [d1, d2, d3, d4] => { results := [.lit (.bool true)], args := [d1, d2, d3, d4] }
  | _ => none }
def nodePlacesRow : OpenClaim := { program := "ytpenlcigickkbaa", sum := "cbc970b4b1d17f4c0723a8d1679ae0b1856433d224dc1ff6459364ea09bc3920", func := "ordinate/ordinatelaw8.NodePlaces", spec := "nodePlaces", unfollowed := true, recurses := true, apart := false }
def NodePlacesSaid : Prop := nodePlacesRow.holds Try.pinned (OpenSpec.ofChange nodePlacesSpec)

/-- ITS FALSE NEIGHBOUR: 'it returns false'. Refute it at one input. -/
def nodePlacesWrong : ChangeSpec := { name := "nodePlaces", fn := fun _ => fun
  | [d1, d2, d3, d4] => { results := [.lit (.bool false)], args := [d1, d2, d3, d4] }
  | _ => none }
def NodePlacesWrongFalsely : Prop := nodePlacesRow.holds Try.pinned (OpenSpec.ofChange nodePlacesWrong)

/-- 'ordinatelaw8.NodeBegin': WHATEVER THE INPUT: true; the input reads as it did. -/
def nodeBeginSpec : ChangeSpec := { name := "nodeBegin", fn := fun _ => fun
  | [d1, d2] => { results := [.lit (.bool true)], args := [d1, d2] }
  | _ => none }
def nodeBeginRow : OpenClaim := { program := "ytpenlcigickkbaa", sum := "cbc970b4b1d17f4c0723a8d1679ae0b1856433d224dc1ff6459364ea09bc3920", func := "ordinate/ordinatelaw8.NodeBegin", spec := "nodeBegin", unfollowed := true, recurses := true, apart := false }
def NodeBeginSaid : Prop := nodeBeginRow.holds Try.pinned (OpenSpec.ofChange nodeBeginSpec)

/-- ITS FALSE NEIGHBOUR: 'it returns false'. Refute it at one input. -/
def nodeBeginWrong : ChangeSpec := { name := "nodeBegin", fn := fun _ => fun
  | [d1, d2] => { results := [.lit (.bool false)], args := [d1, d2] }
  | _ => none }
def NodeBeginWrongFalsely : Prop := nodeBeginRow.holds Try.pinned (OpenSpec.ofChange nodeBeginWrong)

/-- 'ordinatelaw12.HelpOnce': WHATEVER THE INPUT: true; the input reads as it did. -/
def helpOnceSpec : ChangeSpec := { name := "helpOnce", fn := fun _ => fun
  | [d1, d2, d3, d4] => { results := [.lit (.bool true)], args := [d1, d2, d3, d4] }
  | _ => none }
def helpOnceRow : OpenClaim := { program := "ytpenlcigickkbaa", sum := "cbc970b4b1d17f4c0723a8d1679ae0b1856433d224dc1ff6459364ea09bc3920", func := "ordinate/ordinatelaw12.HelpOnce", spec := "helpOnce", apart := false }
def HelpOnceSaid : Prop := helpOnceRow.holds Try.pinned (OpenSpec.ofChange helpOnceSpec)

/-- ITS FALSE NEIGHBOUR: 'it returns false'. Refute it at one input. -/
def helpOnceWrong : ChangeSpec := { name := "helpOnce", fn := fun _ => fun
  | [d1, d2, d3, d4] => { results := [.lit (.bool false)], args := [d1, d2, d3, d4] }
  | _ => none }
def HelpOnceWrongFalsely : Prop := helpOnceRow.holds Try.pinned (OpenSpec.ofChange helpOnceWrong)

/-- 'ordinatelaw14.DcssAlone': WHATEVER THE INPUT: true; the input reads as it did. -/
def dcssAloneSpec : ChangeSpec := { name := "dcssAlone", fn := fun _ => fun
  | [d1, d2, d3, d4] => { results := [.lit (.bool true)], args := [d1, d2, d3, d4] }
  | _ => none }
def dcssAloneRow : OpenClaim := { program := "ytpenlcigickkbaa", sum := "cbc970b4b1d17f4c0723a8d1679ae0b1856433d224dc1ff6459364ea09bc3920", func := "ordinate/ordinatelaw14.DcssAlone", spec := "dcssAlone", apart := false }
def DcssAloneSaid : Prop := dcssAloneRow.holds Try.pinned (OpenSpec.ofChange dcssAloneSpec)

/-- ITS FALSE NEIGHBOUR: 'it returns false'. Refute it at one input. -/
def dcssAloneWrong : ChangeSpec := { name := "dcssAlone", fn := fun _ => fun
  | [d1, d2, d3, d4] => { results := [.lit (.bool false)], args := [d1, d2, d3, d4] }
  | _ => none }
def DcssAloneWrongFalsely : Prop := dcssAloneRow.holds Try.pinned (OpenSpec.ofChange dcssAloneWrong)

/-- 'ordinatelaw14.DcssRoom': WHATEVER THE INPUT: true; the input reads as it did. -/
def dcssRoomSpec : ChangeSpec := { name := "dcssRoom", fn := fun _ => fun
  | [d1, d2, d3] => { results := [.lit (.bool true)], args := [d1, d2, d3] }
  | _ => none }
def dcssRoomRow : OpenClaim := { program := "ytpenlcigickkbaa", sum := "cbc970b4b1d17f4c0723a8d1679ae0b1856433d224dc1ff6459364ea09bc3920", func := "ordinate/ordinatelaw14.DcssRoom", spec := "dcssRoom", apart := false }
def DcssRoomSaid : Prop := dcssRoomRow.holds Try.pinned (OpenSpec.ofChange dcssRoomSpec)

/-- ITS FALSE NEIGHBOUR: 'it returns false'. Refute it at one input. -/
def dcssRoomWrong : ChangeSpec := { name := "dcssRoom", fn := fun _ => fun
  | [d1, d2, d3] => { results := [.lit (.bool false)], args := [d1, d2, d3] }
  | _ => none }
def DcssRoomWrongFalsely : Prop := dcssRoomRow.holds Try.pinned (OpenSpec.ofChange dcssRoomWrong)

/-- 'ordinatelaw14.DcssMany': WHATEVER THE INPUT: true; the input reads as it did. -/
def dcssManySpec : ChangeSpec := { name := "dcssMany", fn := fun _ => fun
  | [d1, d2] => { results := [.lit (.bool true)], args := [d1, d2] }
  | _ => none }
def dcssManyRow : OpenClaim := { program := "ytpenlcigickkbaa", sum := "cbc970b4b1d17f4c0723a8d1679ae0b1856433d224dc1ff6459364ea09bc3920", func := "ordinate/ordinatelaw14.DcssMany", spec := "dcssMany", apart := false }
def DcssManySaid : Prop := dcssManyRow.holds Try.pinned (OpenSpec.ofChange dcssManySpec)

/-- ITS FALSE NEIGHBOUR: 'it returns false'. Refute it at one input. -/
def dcssManyWrong : ChangeSpec := { name := "dcssMany", fn := fun _ => fun
  | [d1, d2] => { results := [.lit (.bool false)], args := [d1, d2] }
  | _ => none }
def DcssManyWrongFalsely : Prop := dcssManyRow.holds Try.pinned (OpenSpec.ofChange dcssManyWrong)

/- THE SECOND FORM. 'bulk': how many values and letters a reading holds, each counted each time it is reached (what is shared counts as often as it is met; a slice's spare places count too). A statement '..UptoSaid' is the law's where the arguments, and the package variables that the reading takes, are together of bulk at most 1048576: NARROWER than '..Said'. Prove '..Said' where nothing that the law and all that it calls make is longer than what came in: it says more and counts as full. Else prove '..UptoSaid'. A law counts once. -/
mutual
def uptoBulk {H : Type} : DataW H → Nat
  | .lit (.string bytes) => bytes.length + 1
  | .lit _ => 1
  | .nil => 1
  | .ptr d => uptoBulk d + 1
  | .slice elems spare => uptoBulkAll elems + uptoBulkAll spare + 1
  | .agg parts => uptoBulkAll parts + 1
  | .iface _ d => uptoBulk d + 1
  | .map entries => uptoBulkEntries entries + 1
  | .held _ => 1
def uptoBulkAll {H : Type} : List (DataW H) → Nat
  | [] => 0
  | d :: r => uptoBulk d + uptoBulkAll r
def uptoBulkEntries {H : Type} : List (Lit × DataW H) → Nat
  | [] => 0
  | x :: r => uptoBulkEntry x + uptoBulkEntries r
def uptoBulkEntry {H : Type} : Lit × DataW H → Nat
  | (.string bytes, d) => bytes.length + uptoBulk d + 1
  | (_, d) => uptoBulk d + 1
 end
def uptoSmall : (H : Type) → List (DataW H) → Bool := fun _ ds => decide (uptoBulkAll ds ≤ 1048576)
def OpenSpec.upto (s : _root_.Go.ChangeSpec) : _root_.Go.OpenSpec := { _root_.Go.OpenSpec.ofChange s with cond := some uptoSmall }

/-- 'ordinatelaw7.MemFresh', WHERE WHAT IT READS IS OF BULK AT MOST 1048576: true; the input reads as it did. -/
def memFreshUptoRow : OpenClaim := { program := "ytpenlcigickkbaa", sum := "cbc970b4b1d17f4c0723a8d1679ae0b1856433d224dc1ff6459364ea09bc3920", func := "ordinate/ordinatelaw7.MemFresh", spec := "memFresh", apart := false, narrowed := true }
def MemFreshUptoSaid : Prop := memFreshUptoRow.holds Try.pinned (OpenSpec.upto memFreshSpec)

/-- 'ordinatelaw7.MemOdd', WHERE WHAT IT READS IS OF BULK AT MOST 1048576: true; the input reads as it did. -/
def memOddUptoRow : OpenClaim := { program := "ytpenlcigickkbaa", sum := "cbc970b4b1d17f4c0723a8d1679ae0b1856433d224dc1ff6459364ea09bc3920", func := "ordinate/ordinatelaw7.MemOdd", spec := "memOdd", apart := false, narrowed := true }
def MemOddUptoSaid : Prop := memOddUptoRow.holds Try.pinned (OpenSpec.upto memOddSpec)

/-- 'ordinatelaw7.MemOne', WHERE WHAT IT READS IS OF BULK AT MOST 1048576: true; the input reads as it did. -/
def memOneUptoRow : OpenClaim := { program := "ytpenlcigickkbaa", sum := "cbc970b4b1d17f4c0723a8d1679ae0b1856433d224dc1ff6459364ea09bc3920", func := "ordinate/ordinatelaw7.MemOne", spec := "memOne", apart := false, narrowed := true }
def MemOneUptoSaid : Prop := memOneUptoRow.holds Try.pinned (OpenSpec.upto memOneSpec)

/-- 'ordinatelaw7.MemPlays', WHERE WHAT IT READS IS OF BULK AT MOST 1048576: true; the input reads as it did. -/
def memPlaysUptoRow : OpenClaim := { program := "ytpenlcigickkbaa", sum := "cbc970b4b1d17f4c0723a8d1679ae0b1856433d224dc1ff6459364ea09bc3920", func := "ordinate/ordinatelaw7.MemPlays", spec := "memPlays", apart := false, narrowed := true }
def MemPlaysUptoSaid : Prop := memPlaysUptoRow.holds Try.pinned (OpenSpec.upto memPlaysSpec)

/-- 'ordinatelaw7.MemApart', WHERE WHAT IT READS IS OF BULK AT MOST 1048576: true; the input reads as it did. -/
def memApartUptoRow : OpenClaim := { program := "ytpenlcigickkbaa", sum := "cbc970b4b1d17f4c0723a8d1679ae0b1856433d224dc1ff6459364ea09bc3920", func := "ordinate/ordinatelaw7.MemApart", spec := "memApart", apart := false, narrowed := true }
def MemApartUptoSaid : Prop := memApartUptoRow.holds Try.pinned (OpenSpec.upto memApartSpec)

/-- 'ordinatelaw8.NodeTells', WHERE WHAT IT READS IS OF BULK AT MOST 1048576: true; the input reads as it did. -/
def nodeTellsUptoRow : OpenClaim := { program := "ytpenlcigickkbaa", sum := "cbc970b4b1d17f4c0723a8d1679ae0b1856433d224dc1ff6459364ea09bc3920", func := "ordinate/ordinatelaw8.NodeTells", spec := "nodeTells", unfollowed := true, recurses := true, apart := false, narrowed := true }
def NodeTellsUptoSaid : Prop := nodeTellsUptoRow.holds Try.pinned (OpenSpec.upto nodeTellsSpec)

/-- 'ordinatelaw8.NodePlaces', WHERE WHAT IT READS IS OF BULK AT MOST 1048576: true; the input reads as it did. -/
def nodePlacesUptoRow : OpenClaim := { program := "ytpenlcigickkbaa", sum := "cbc970b4b1d17f4c0723a8d1679ae0b1856433d224dc1ff6459364ea09bc3920", func := "ordinate/ordinatelaw8.NodePlaces", spec := "nodePlaces", unfollowed := true, recurses := true, apart := false, narrowed := true }
def NodePlacesUptoSaid : Prop := nodePlacesUptoRow.holds Try.pinned (OpenSpec.upto nodePlacesSpec)

/-- 'ordinatelaw8.NodeBegin', WHERE WHAT IT READS IS OF BULK AT MOST 1048576: true; the input reads as it did. -/
def nodeBeginUptoRow : OpenClaim := { program := "ytpenlcigickkbaa", sum := "cbc970b4b1d17f4c0723a8d1679ae0b1856433d224dc1ff6459364ea09bc3920", func := "ordinate/ordinatelaw8.NodeBegin", spec := "nodeBegin", unfollowed := true, recurses := true, apart := false, narrowed := true }
def NodeBeginUptoSaid : Prop := nodeBeginUptoRow.holds Try.pinned (OpenSpec.upto nodeBeginSpec)

/-- 'ordinatelaw12.HelpOnce', WHERE WHAT IT READS IS OF BULK AT MOST 1048576: true; the input reads as it did. -/
def helpOnceUptoRow : OpenClaim := { program := "ytpenlcigickkbaa", sum := "cbc970b4b1d17f4c0723a8d1679ae0b1856433d224dc1ff6459364ea09bc3920", func := "ordinate/ordinatelaw12.HelpOnce", spec := "helpOnce", apart := false, narrowed := true }
def HelpOnceUptoSaid : Prop := helpOnceUptoRow.holds Try.pinned (OpenSpec.upto helpOnceSpec)

/-- 'ordinatelaw14.DcssAlone', WHERE WHAT IT READS IS OF BULK AT MOST 1048576: true; the input reads as it did. -/
def dcssAloneUptoRow : OpenClaim := { program := "ytpenlcigickkbaa", sum := "cbc970b4b1d17f4c0723a8d1679ae0b1856433d224dc1ff6459364ea09bc3920", func := "ordinate/ordinatelaw14.DcssAlone", spec := "dcssAlone", apart := false, narrowed := true }
def DcssAloneUptoSaid : Prop := dcssAloneUptoRow.holds Try.pinned (OpenSpec.upto dcssAloneSpec)

/-- 'ordinatelaw14.DcssRoom', WHERE WHAT IT READS IS OF BULK AT MOST 1048576: true; the input reads as it did. -/
def dcssRoomUptoRow : OpenClaim := { program := "ytpenlcigickkbaa", sum := "cbc970b4b1d17f4c0723a8d1679ae0b1856433d224dc1ff6459364ea09bc3920", func := "ordinate/ordinatelaw14.DcssRoom", spec := "dcssRoom", apart := false, narrowed := true }
def DcssRoomUptoSaid : Prop := dcssRoomUptoRow.holds Try.pinned (OpenSpec.upto dcssRoomSpec)

/-- 'ordinatelaw14.DcssMany', WHERE WHAT IT READS IS OF BULK AT MOST 1048576: true; the input reads as it did. -/
def dcssManyUptoRow : OpenClaim := { program := "ytpenlcigickkbaa", sum := "cbc970b4b1d17f4c0723a8d1679ae0b1856433d224dc1ff6459364ea09bc3920", func := "ordinate/ordinatelaw14.DcssMany", spec := "dcssMany", apart := false, narrowed := true }
def DcssManyUptoSaid : Prop := dcssManyUptoRow.holds Try.pinned (OpenSpec.upto dcssManySpec)

end Rows
end Go.Proofs.Ytpenlcigickkbaa
