/-
  No cell of these rows narrows 'for every input' (looked for: loops, veiled, ifaces, maps, wideKeys, modest, calm, conditions, laid).
  DERIVED. THE GIVEN ROWS OF THIS SEAT. 9 by the template 'for every input the law returns true; each argument reads behind the call as it read before'; 0 by the template 'total and deterministic' (their statements: YtgfgglponbmgmaaGreatTotals.lean).
  GIVEN WITH THE SEED: the statements are not yours to turn. If you find one false, say at which input.
  Laid BY PROGRAM, IN A SANDBOX (cutbox-rows.mjs): the forced cells as the released guide's own fill.sh prints them over the translation 663cb52d7cf122fe… (all of the seat's roots in one cut). By AI agents, Wed Nov 11 2026. No macro, syntax, notation, axiom, sorry.
-/
import Derived.Test.YtgfgglponbmgmaaGreatChecked
import GoSem.Claim
import GoSem.ClaimJoined
import GoSem.ClaimMapViews
import Derived.JoinedTies
import Derived.KernelRfl
namespace Go.Proofs.YtgfgglponbmgmaaGreat
/- THE CELL 'sum', in the pinned program and in every row, IS THE sha256 OF THE DUMP (.gsa) THAT YtgfgglponbmgmaaGreatProg.lean LOADS. Nothing in Lean hashes anything: it is a label: what it is worth is what the hold of that sum in a sandbox is worth. -/
noncomputable def Tryz.pinned : Pinned := { name := "ytgfgglponbmgmaagreat", sum := "663cb52d7cf122fe49b401f7204d6b6eef055b502e9ba25cf5709a826a44480d", checked := Tryz.checked }
namespace Rows
def none {H : Type} : Left H := { results := [], args := [] }

/-- 'ordinatelaw12.HelpPlays': WHATEVER THE INPUT: true; the input reads as it did. -/
def helpPlaysSpec : ChangeSpec := { name := "helpPlays", fn := fun _ => fun
  | [d1, d2, d3, d4, d5, d6] => { results := [.lit (.bool true)], args := [d1, d2, d3, d4, d5, d6] }
  | _ => none }
def helpPlaysRow : OpenClaim := { program := "ytgfgglponbmgmaagreat", sum := "663cb52d7cf122fe49b401f7204d6b6eef055b502e9ba25cf5709a826a44480d", func := "ordinate/ordinatelaw12.HelpPlays", spec := "helpPlays", recurses := true, apart := false }
def HelpPlaysSaid : Prop := helpPlaysRow.holds Tryz.pinned (OpenSpec.ofChange helpPlaysSpec)

/-- ITS FALSE NEIGHBOUR: 'it returns false'. Refute it at one input. -/
def helpPlaysWrong : ChangeSpec := { name := "helpPlays", fn := fun _ => fun
  | [d1, d2, d3, d4, d5, d6] => { results := [.lit (.bool false)], args := [d1, d2, d3, d4, d5, d6] }
  | _ => none }
def HelpPlaysWrongFalsely : Prop := helpPlaysRow.holds Tryz.pinned (OpenSpec.ofChange helpPlaysWrong)

/-- 'ordinatelaw11.PeekPlays': WHATEVER THE INPUT: true; the input reads as it did. -/
def peekPlaysSpec : ChangeSpec := { name := "peekPlays", fn := fun _ => fun
  | [d1, d2, d3, d4, d5, d6] => { results := [.lit (.bool true)], args := [d1, d2, d3, d4, d5, d6] }
  | _ => none }
def peekPlaysRow : OpenClaim := { program := "ytgfgglponbmgmaagreat", sum := "663cb52d7cf122fe49b401f7204d6b6eef055b502e9ba25cf5709a826a44480d", func := "ordinate/ordinatelaw11.PeekPlays", spec := "peekPlays", recurses := true, apart := false }
def PeekPlaysSaid : Prop := peekPlaysRow.holds Tryz.pinned (OpenSpec.ofChange peekPlaysSpec)

/-- ITS FALSE NEIGHBOUR: 'it returns false'. Refute it at one input. -/
def peekPlaysWrong : ChangeSpec := { name := "peekPlays", fn := fun _ => fun
  | [d1, d2, d3, d4, d5, d6] => { results := [.lit (.bool false)], args := [d1, d2, d3, d4, d5, d6] }
  | _ => none }
def PeekPlaysWrongFalsely : Prop := peekPlaysRow.holds Tryz.pinned (OpenSpec.ofChange peekPlaysWrong)

/-- 'ordinatelaw11.PeekMoment': WHATEVER THE INPUT: true; the input reads as it did. -/
def peekMomentSpec : ChangeSpec := { name := "peekMoment", fn := fun _ => fun
  | [d1, d2, d3, d4, d5] => { results := [.lit (.bool true)], args := [d1, d2, d3, d4, d5] }
  | _ => none }
def peekMomentRow : OpenClaim := { program := "ytgfgglponbmgmaagreat", sum := "663cb52d7cf122fe49b401f7204d6b6eef055b502e9ba25cf5709a826a44480d", func := "ordinate/ordinatelaw11.PeekMoment", spec := "peekMoment", recurses := true, apart := false }
def PeekMomentSaid : Prop := peekMomentRow.holds Tryz.pinned (OpenSpec.ofChange peekMomentSpec)

/-- ITS FALSE NEIGHBOUR: 'it returns false'. Refute it at one input. -/
def peekMomentWrong : ChangeSpec := { name := "peekMoment", fn := fun _ => fun
  | [d1, d2, d3, d4, d5] => { results := [.lit (.bool false)], args := [d1, d2, d3, d4, d5] }
  | _ => none }
def PeekMomentWrongFalsely : Prop := peekMomentRow.holds Tryz.pinned (OpenSpec.ofChange peekMomentWrong)

/-- 'ordinatelaw11.PeekShort': WHATEVER THE INPUT: true; the input reads as it did. -/
def peekShortSpec : ChangeSpec := { name := "peekShort", fn := fun _ => fun
  | [d1, d2, d3, d4, d5] => { results := [.lit (.bool true)], args := [d1, d2, d3, d4, d5] }
  | _ => none }
def peekShortRow : OpenClaim := { program := "ytgfgglponbmgmaagreat", sum := "663cb52d7cf122fe49b401f7204d6b6eef055b502e9ba25cf5709a826a44480d", func := "ordinate/ordinatelaw11.PeekShort", spec := "peekShort", recurses := true, apart := false }
def PeekShortSaid : Prop := peekShortRow.holds Tryz.pinned (OpenSpec.ofChange peekShortSpec)

/-- ITS FALSE NEIGHBOUR: 'it returns false'. Refute it at one input. -/
def peekShortWrong : ChangeSpec := { name := "peekShort", fn := fun _ => fun
  | [d1, d2, d3, d4, d5] => { results := [.lit (.bool false)], args := [d1, d2, d3, d4, d5] }
  | _ => none }
def PeekShortWrongFalsely : Prop := peekShortRow.holds Tryz.pinned (OpenSpec.ofChange peekShortWrong)

/-- 'ordinatelaw12.HelpLogic': WHATEVER THE INPUT: true; the input reads as it did. -/
def helpLogicSpec : ChangeSpec := { name := "helpLogic", fn := fun _ => fun
  | [d1, d2, d3, d4, d5, d6] => { results := [.lit (.bool true)], args := [d1, d2, d3, d4, d5, d6] }
  | _ => none }
def helpLogicRow : OpenClaim := { program := "ytgfgglponbmgmaagreat", sum := "663cb52d7cf122fe49b401f7204d6b6eef055b502e9ba25cf5709a826a44480d", func := "ordinate/ordinatelaw12.HelpLogic", spec := "helpLogic", recurses := true, apart := false }
def HelpLogicSaid : Prop := helpLogicRow.holds Tryz.pinned (OpenSpec.ofChange helpLogicSpec)

/-- ITS FALSE NEIGHBOUR: 'it returns false'. Refute it at one input. -/
def helpLogicWrong : ChangeSpec := { name := "helpLogic", fn := fun _ => fun
  | [d1, d2, d3, d4, d5, d6] => { results := [.lit (.bool false)], args := [d1, d2, d3, d4, d5, d6] }
  | _ => none }
def HelpLogicWrongFalsely : Prop := helpLogicRow.holds Tryz.pinned (OpenSpec.ofChange helpLogicWrong)

/-- 'ordinatelaw14.DcssPlays': WHATEVER THE INPUT: true; the input reads as it did. -/
def dcssPlaysSpec : ChangeSpec := { name := "dcssPlays", fn := fun _ => fun
  | [d1, d2, d3, d4, d5, d6] => { results := [.lit (.bool true)], args := [d1, d2, d3, d4, d5, d6] }
  | _ => none }
def dcssPlaysRow : OpenClaim := { program := "ytgfgglponbmgmaagreat", sum := "663cb52d7cf122fe49b401f7204d6b6eef055b502e9ba25cf5709a826a44480d", func := "ordinate/ordinatelaw14.DcssPlays", spec := "dcssPlays", recurses := true, apart := false }
def DcssPlaysSaid : Prop := dcssPlaysRow.holds Tryz.pinned (OpenSpec.ofChange dcssPlaysSpec)

/-- ITS FALSE NEIGHBOUR: 'it returns false'. Refute it at one input. -/
def dcssPlaysWrong : ChangeSpec := { name := "dcssPlays", fn := fun _ => fun
  | [d1, d2, d3, d4, d5, d6] => { results := [.lit (.bool false)], args := [d1, d2, d3, d4, d5, d6] }
  | _ => none }
def DcssPlaysWrongFalsely : Prop := dcssPlaysRow.holds Tryz.pinned (OpenSpec.ofChange dcssPlaysWrong)

/-- 'ordinatelaw13.ReadPlays': WHATEVER THE INPUT: true; the input reads as it did. -/
def readPlaysSpec : ChangeSpec := { name := "readPlays", fn := fun _ => fun
  | [d1, d2, d3, d4, d5, d6, d7] => { results := [.lit (.bool true)], args := [d1, d2, d3, d4, d5, d6, d7] }
  | _ => none }
def readPlaysRow : OpenClaim := { program := "ytgfgglponbmgmaagreat", sum := "663cb52d7cf122fe49b401f7204d6b6eef055b502e9ba25cf5709a826a44480d", func := "ordinate/ordinatelaw13.ReadPlays", spec := "readPlays", recurses := true, apart := false }
def ReadPlaysSaid : Prop := readPlaysRow.holds Tryz.pinned (OpenSpec.ofChange readPlaysSpec)

/-- ITS FALSE NEIGHBOUR: 'it returns false'. Refute it at one input. -/
def readPlaysWrong : ChangeSpec := { name := "readPlays", fn := fun _ => fun
  | [d1, d2, d3, d4, d5, d6, d7] => { results := [.lit (.bool false)], args := [d1, d2, d3, d4, d5, d6, d7] }
  | _ => none }
def ReadPlaysWrongFalsely : Prop := readPlaysRow.holds Tryz.pinned (OpenSpec.ofChange readPlaysWrong)

/-- 'ordinatelaw13.ReadClean': WHATEVER THE INPUT: true; the input reads as it did. -/
def readCleanSpec : ChangeSpec := { name := "readClean", fn := fun _ => fun
  | [d1, d2, d3, d4, d5, d6] => { results := [.lit (.bool true)], args := [d1, d2, d3, d4, d5, d6] }
  | _ => none }
def readCleanRow : OpenClaim := { program := "ytgfgglponbmgmaagreat", sum := "663cb52d7cf122fe49b401f7204d6b6eef055b502e9ba25cf5709a826a44480d", func := "ordinate/ordinatelaw13.ReadClean", spec := "readClean", recurses := true, apart := false }
def ReadCleanSaid : Prop := readCleanRow.holds Tryz.pinned (OpenSpec.ofChange readCleanSpec)

/-- ITS FALSE NEIGHBOUR: 'it returns false'. Refute it at one input. -/
def readCleanWrong : ChangeSpec := { name := "readClean", fn := fun _ => fun
  | [d1, d2, d3, d4, d5, d6] => { results := [.lit (.bool false)], args := [d1, d2, d3, d4, d5, d6] }
  | _ => none }
def ReadCleanWrongFalsely : Prop := readCleanRow.holds Tryz.pinned (OpenSpec.ofChange readCleanWrong)

/-- 'ordinatelaw13.ReadSame': WHATEVER THE INPUT: true; the input reads as it did. -/
def readSameSpec : ChangeSpec := { name := "readSame", fn := fun _ => fun
  | [d1, d2, d3, d4, d5] => { results := [.lit (.bool true)], args := [d1, d2, d3, d4, d5] }
  | _ => none }
def readSameRow : OpenClaim := { program := "ytgfgglponbmgmaagreat", sum := "663cb52d7cf122fe49b401f7204d6b6eef055b502e9ba25cf5709a826a44480d", func := "ordinate/ordinatelaw13.ReadSame", spec := "readSame", recurses := true, apart := false }
def ReadSameSaid : Prop := readSameRow.holds Tryz.pinned (OpenSpec.ofChange readSameSpec)

/-- ITS FALSE NEIGHBOUR: 'it returns false'. Refute it at one input. -/
def readSameWrong : ChangeSpec := { name := "readSame", fn := fun _ => fun
  | [d1, d2, d3, d4, d5] => { results := [.lit (.bool false)], args := [d1, d2, d3, d4, d5] }
  | _ => none }
def ReadSameWrongFalsely : Prop := readSameRow.holds Tryz.pinned (OpenSpec.ofChange readSameWrong)

/- THE SECOND FORM. 'bulk': how many values and letters a reading holds, each counted each time it is reached (what is shared counts as often as it is met; a slice's spare places count too). A statement '..UptoSaid' is the law's where the arguments, and the package variables that the reading takes, are together of bulk at most 1048576: NARROWER than '..Said'. Prove '..Said' where nothing that the law and all that it calls make is longer than what came in: it says more and counts as full. Else prove '..UptoSaid'. A law counts once. -/
mutual
def uptoBulk {H : Type} : DataW H → Nat
  | .lit (.string bytes) => bytes.length + 1
  | .lit _ => 1
  | .nil => 1
  | .ptr d => uptoBulk d + 1
  | .slice elems spare => uptoBulkAll elems + uptoBulkAll spare + 1
  | .agg parts => uptoBulkAll parts + 1
  | .iface _ d => uptoBulk d + 1
  | .map entries => uptoBulkEntries entries + 1
  | .held _ => 1
def uptoBulkAll {H : Type} : List (DataW H) → Nat
  | [] => 0
  | d :: r => uptoBulk d + uptoBulkAll r
def uptoBulkEntries {H : Type} : List (Lit × DataW H) → Nat
  | [] => 0
  | x :: r => uptoBulkEntry x + uptoBulkEntries r
def uptoBulkEntry {H : Type} : Lit × DataW H → Nat
  | (.string bytes, d) => bytes.length + uptoBulk d + 1
  | (_, d) => uptoBulk d + 1
 end
def uptoSmall : (H : Type) → List (DataW H) → Bool := fun _ ds => decide (uptoBulkAll ds ≤ 1048576)
def OpenSpec.upto (s : _root_.Go.ChangeSpec) : _root_.Go.OpenSpec := { _root_.Go.OpenSpec.ofChange s with cond := some uptoSmall }

/-- 'ordinatelaw12.HelpPlays', WHERE WHAT IT READS IS OF BULK AT MOST 1048576: true; the input reads as it did. -/
def helpPlaysUptoRow : OpenClaim := { program := "ytgfgglponbmgmaagreat", sum := "663cb52d7cf122fe49b401f7204d6b6eef055b502e9ba25cf5709a826a44480d", func := "ordinate/ordinatelaw12.HelpPlays", spec := "helpPlays", recurses := true, apart := false, narrowed := true }
def HelpPlaysUptoSaid : Prop := helpPlaysUptoRow.holds Tryz.pinned (OpenSpec.upto helpPlaysSpec)

/-- 'ordinatelaw11.PeekPlays', WHERE WHAT IT READS IS OF BULK AT MOST 1048576: true; the input reads as it did. -/
def peekPlaysUptoRow : OpenClaim := { program := "ytgfgglponbmgmaagreat", sum := "663cb52d7cf122fe49b401f7204d6b6eef055b502e9ba25cf5709a826a44480d", func := "ordinate/ordinatelaw11.PeekPlays", spec := "peekPlays", recurses := true, apart := false, narrowed := true }
def PeekPlaysUptoSaid : Prop := peekPlaysUptoRow.holds Tryz.pinned (OpenSpec.upto peekPlaysSpec)

/-- 'ordinatelaw11.PeekMoment', WHERE WHAT IT READS IS OF BULK AT MOST 1048576: true; the input reads as it did. -/
def peekMomentUptoRow : OpenClaim := { program := "ytgfgglponbmgmaagreat", sum := "663cb52d7cf122fe49b401f7204d6b6eef055b502e9ba25cf5709a826a44480d", func := "ordinate/ordinatelaw11.PeekMoment", spec := "peekMoment", recurses := true, apart := false, narrowed := true }
def PeekMomentUptoSaid : Prop := peekMomentUptoRow.holds Tryz.pinned (OpenSpec.upto peekMomentSpec)

/-- 'ordinatelaw11.PeekShort', WHERE WHAT IT READS IS OF BULK AT MOST 1048576: true; the input reads as it did. -/
def peekShortUptoRow : OpenClaim := { program := "ytgfgglponbmgmaagreat", sum := "663cb52d7cf122fe49b401f7204d6b6eef055b502e9ba25cf5709a826a44480d", func := "ordinate/ordinatelaw11.PeekShort", spec := "peekShort", recurses := true, apart := false, narrowed := true }
def PeekShortUptoSaid : Prop := peekShortUptoRow.holds Tryz.pinned (OpenSpec.upto peekShortSpec)

/-- 'ordinatelaw12.HelpLogic', WHERE WHAT IT READS IS OF BULK AT MOST 1048576: true; the input reads as it did. -/
def helpLogicUptoRow : OpenClaim := { program := "ytgfgglponbmgmaagreat", sum := "663cb52d7cf122fe49b401f7204d6b6eef055b502e9ba25cf5709a826a44480d", func := "ordinate/ordinatelaw12.HelpLogic", spec := "helpLogic", recurses := true, apart := false, narrowed := true }
def HelpLogicUptoSaid : Prop := helpLogicUptoRow.holds Tryz.pinned (OpenSpec.upto helpLogicSpec)

/-- 'ordinatelaw14.DcssPlays', WHERE WHAT IT READS IS OF BULK AT MOST 1048576: true; the input reads as it did. -/
def dcssPlaysUptoRow : OpenClaim := { program := "ytgfgglponbmgmaagreat", sum := "663cb52d7cf122fe49b401f7204d6b6eef055b502e9ba25cf5709a826a44480d", func := "ordinate/ordinatelaw14.DcssPlays", spec := "dcssPlays", recurses := true, apart := false, narrowed := true }
def DcssPlaysUptoSaid : Prop := dcssPlaysUptoRow.holds Tryz.pinned (OpenSpec.upto dcssPlaysSpec)

/-- 'ordinatelaw13.ReadPlays', WHERE WHAT IT READS IS OF BULK AT MOST 1048576: true; the input reads as it did. -/
def readPlaysUptoRow : OpenClaim := { program := "ytgfgglponbmgmaagreat", sum := "663cb52d7cf122fe49b401f7204d6b6eef055b502e9ba25cf5709a826a44480d", func := "ordinate/ordinatelaw13.ReadPlays", spec := "readPlays", recurses := true, apart := false, narrowed := true }
def ReadPlaysUptoSaid : Prop := readPlaysUptoRow.holds Tryz.pinned (OpenSpec.upto readPlaysSpec)

/-- 'ordinatelaw13.ReadClean', WHERE WHAT IT READS IS OF BULK AT MOST 1048576: true; the input reads as it did. -/
def readCleanUptoRow : OpenClaim := { program := "ytgfgglponbmgmaagreat", sum := "663cb52d7cf122fe49b401f7204d6b6eef055b502e9ba25cf5709a826a44480d", func := "ordinate/ordinatelaw13.ReadClean", spec := "readClean", recurses := true, apart := false, narrowed := true }
def ReadCleanUptoSaid : Prop := readCleanUptoRow.holds Tryz.pinned (OpenSpec.upto readCleanSpec)

/-- 'ordinatelaw13.ReadSame', WHERE WHAT IT READS IS OF BULK AT MOST 1048576: true; the input reads as it did. -/
def readSameUptoRow : OpenClaim := { program := "ytgfgglponbmgmaagreat", sum := "663cb52d7cf122fe49b401f7204d6b6eef055b502e9ba25cf5709a826a44480d", func := "ordinate/ordinatelaw13.ReadSame", spec := "readSame", recurses := true, apart := false, narrowed := true }
def ReadSameUptoSaid : Prop := readSameUptoRow.holds Tryz.pinned (OpenSpec.upto readSameSpec)

end Rows
end Go.Proofs.YtgfgglponbmgmaaGreat
