/-
  No cell of these rows narrows 'for every input' (looked for: loops, veiled, ifaces, maps, wideKeys, modest, calm, conditions, laid).
  DERIVED. THE GIVEN ROWS OF THIS SEAT. 7 by the template 'for every input the law returns true; each argument reads behind the call as it read before'; 0 by the template 'total and deterministic' (their statements: YtdgolnenpnkjbaaTotals.lean).
  GIVEN WITH THE SEED: the statements are not yours to turn. If you find one false, say at which input.
  Laid BY PROGRAM, IN A SANDBOX (cutbox-rows.mjs): the forced cells as the released guide's own fill.sh prints them over the translation 248a9963513f7c53… (all of the seat's roots in one cut). By AI agents, Wed Nov 11 2026. No macro, syntax, notation, axiom, sorry.
-/
import Derived.Test.YtdgolnenpnkjbaaChecked
import GoSem.Claim
import GoSem.ClaimJoined
import GoSem.ClaimMapViews
import Derived.JoinedTies
import Derived.KernelRfl
namespace Go.Proofs.Ytdgolnenpnkjbaa
/- THE CELL 'sum', in the pinned program and in every row, IS THE sha256 OF THE DUMP (.gsa) THAT YtdgolnenpnkjbaaProg.lean LOADS. Nothing in Lean hashes anything: it is a label: what it is worth is what the hold of that sum in a sandbox is worth. -/
noncomputable def Try.pinned : Pinned := { name := "ytdgolnenpnkjbaa", sum := "248a9963513f7c530ce0d47403f552c6643f4f6ea71bf7c2e92027b0026cbe11", checked := Try.checked }
namespace Rows
def none {H : Type} : Left H := { results := [], args := [] }

/-- 'ordinatelaw4.MapNear': WHATEVER THE INPUT: true; the input reads as it did. -/
def mapNearSpec : ChangeSpec := { name := "mapNear", fn := fun _ => fun
  | [d1, d2] => { results := [.lit (.bool true)], args := [d1, d2] }
  | _ => none }
def mapNearRow : OpenClaim := { program := "ytdgolnenpnkjbaa", sum := "248a9963513f7c530ce0d47403f552c6643f4f6ea71bf7c2e92027b0026cbe11", func := "ordinate/ordinatelaw4.MapNear", spec := "mapNear", inPlace := ["slices.overlaps[int64]"], unfollowed := true, recurses := true, apart := false }
def MapNearSaid : Prop := mapNearRow.holds Try.pinned (OpenSpec.ofChange mapNearSpec)

/-- ITS FALSE NEIGHBOUR: 'it returns false'. Refute it at one input. -/
def mapNearWrong : ChangeSpec := { name := "mapNear", fn := fun _ => fun
  | [d1, d2] => { results := [.lit (.bool false)], args := [d1, d2] }
  | _ => none }
def MapNearWrongFalsely : Prop := mapNearRow.holds Try.pinned (OpenSpec.ofChange mapNearWrong)

/-- 'ordinatelaw4.MapTexts': WHATEVER THE INPUT: true; the input reads as it did. -/
def mapTextsSpec : ChangeSpec := { name := "mapTexts", fn := fun _ => fun
  | [d] => { results := [.lit (.bool true)], args := [d] }
  | _ => none }
def mapTextsRow : OpenClaim := { program := "ytdgolnenpnkjbaa", sum := "248a9963513f7c530ce0d47403f552c6643f4f6ea71bf7c2e92027b0026cbe11", func := "ordinate/ordinatelaw4.MapTexts", spec := "mapTexts", inPlace := ["slices.overlaps[int64]", "slices.overlaps[string]", "slices.overlaps[bool]"], unfollowed := true, recurses := true, apart := false }
def MapTextsSaid : Prop := mapTextsRow.holds Try.pinned (OpenSpec.ofChange mapTextsSpec)

/-- ITS FALSE NEIGHBOUR: 'it returns false'. Refute it at one input. -/
def mapTextsWrong : ChangeSpec := { name := "mapTexts", fn := fun _ => fun
  | [d] => { results := [.lit (.bool false)], args := [d] }
  | _ => none }
def MapTextsWrongFalsely : Prop := mapTextsRow.holds Try.pinned (OpenSpec.ofChange mapTextsWrong)

/-- 'ordinatelaw4.MapKnown': WHATEVER THE INPUT: true; the input reads as it did. -/
def mapKnownSpec : ChangeSpec := { name := "mapKnown", fn := fun _ => fun
  | [] => { results := [.lit (.bool true)], args := [] }
  | _ => none }
def mapKnownRow : OpenClaim := { program := "ytdgolnenpnkjbaa", sum := "248a9963513f7c530ce0d47403f552c6643f4f6ea71bf7c2e92027b0026cbe11", func := "ordinate/ordinatelaw4.MapKnown", spec := "mapKnown", inPlace := ["slices.overlaps[int64]"], unfollowed := true, recurses := true, apart := false }
def MapKnownSaid : Prop := mapKnownRow.holds Try.pinned (OpenSpec.ofChange mapKnownSpec)

/-- ITS FALSE NEIGHBOUR: 'it returns false'. Refute it at one input. -/
def mapKnownWrong : ChangeSpec := { name := "mapKnown", fn := fun _ => fun
  | [] => { results := [.lit (.bool false)], args := [] }
  | _ => none }
def MapKnownWrongFalsely : Prop := mapKnownRow.holds Try.pinned (OpenSpec.ofChange mapKnownWrong)

/-- 'ordinatelaw4.MapRange': WHATEVER THE INPUT: true; the input reads as it did. -/
def mapRangeSpec : ChangeSpec := { name := "mapRange", fn := fun _ => fun
  | [d1, d2, d3, d4] => { results := [.lit (.bool true)], args := [d1, d2, d3, d4] }
  | _ => none }
def mapRangeRow : OpenClaim := { program := "ytdgolnenpnkjbaa", sum := "248a9963513f7c530ce0d47403f552c6643f4f6ea71bf7c2e92027b0026cbe11", func := "ordinate/ordinatelaw4.MapRange", spec := "mapRange", inPlace := ["slices.overlaps[int64]"], unfollowed := true, recurses := true, apart := false }
def MapRangeSaid : Prop := mapRangeRow.holds Try.pinned (OpenSpec.ofChange mapRangeSpec)

/-- ITS FALSE NEIGHBOUR: 'it returns false'. Refute it at one input. -/
def mapRangeWrong : ChangeSpec := { name := "mapRange", fn := fun _ => fun
  | [d1, d2, d3, d4] => { results := [.lit (.bool false)], args := [d1, d2, d3, d4] }
  | _ => none }
def MapRangeWrongFalsely : Prop := mapRangeRow.holds Try.pinned (OpenSpec.ofChange mapRangeWrong)

/-- 'ordinatelaw4.MapPlays': WHATEVER THE INPUT: true; the input reads as it did. -/
def mapPlaysSpec : ChangeSpec := { name := "mapPlays", fn := fun _ => fun
  | [d1, d2, d3] => { results := [.lit (.bool true)], args := [d1, d2, d3] }
  | _ => none }
def mapPlaysRow : OpenClaim := { program := "ytdgolnenpnkjbaa", sum := "248a9963513f7c530ce0d47403f552c6643f4f6ea71bf7c2e92027b0026cbe11", func := "ordinate/ordinatelaw4.MapPlays", spec := "mapPlays", inPlace := ["slices.overlaps[int64]"], unfollowed := true, recurses := true, apart := false }
def MapPlaysSaid : Prop := mapPlaysRow.holds Try.pinned (OpenSpec.ofChange mapPlaysSpec)

/-- ITS FALSE NEIGHBOUR: 'it returns false'. Refute it at one input. -/
def mapPlaysWrong : ChangeSpec := { name := "mapPlays", fn := fun _ => fun
  | [d1, d2, d3] => { results := [.lit (.bool false)], args := [d1, d2, d3] }
  | _ => none }
def MapPlaysWrongFalsely : Prop := mapPlaysRow.holds Try.pinned (OpenSpec.ofChange mapPlaysWrong)

/-- 'ordinatelaw4.MapOrder': WHATEVER THE INPUT: true; the input reads as it did. -/
def mapOrderSpec : ChangeSpec := { name := "mapOrder", fn := fun _ => fun
  | [d1, d2] => { results := [.lit (.bool true)], args := [d1, d2] }
  | _ => none }
def mapOrderRow : OpenClaim := { program := "ytdgolnenpnkjbaa", sum := "248a9963513f7c530ce0d47403f552c6643f4f6ea71bf7c2e92027b0026cbe11", func := "ordinate/ordinatelaw4.MapOrder", spec := "mapOrder", inPlace := ["slices.overlaps[int64]"], unfollowed := true, recurses := true, apart := false }
def MapOrderSaid : Prop := mapOrderRow.holds Try.pinned (OpenSpec.ofChange mapOrderSpec)

/-- ITS FALSE NEIGHBOUR: 'it returns false'. Refute it at one input. -/
def mapOrderWrong : ChangeSpec := { name := "mapOrder", fn := fun _ => fun
  | [d1, d2] => { results := [.lit (.bool false)], args := [d1, d2] }
  | _ => none }
def MapOrderWrongFalsely : Prop := mapOrderRow.holds Try.pinned (OpenSpec.ofChange mapOrderWrong)

/-- 'ordinatelaw4.MapClone': WHATEVER THE INPUT: true; the input reads as it did. -/
def mapCloneSpec : ChangeSpec := { name := "mapClone", fn := fun _ => fun
  | [d1, d2] => { results := [.lit (.bool true)], args := [d1, d2] }
  | _ => none }
def mapCloneRow : OpenClaim := { program := "ytdgolnenpnkjbaa", sum := "248a9963513f7c530ce0d47403f552c6643f4f6ea71bf7c2e92027b0026cbe11", func := "ordinate/ordinatelaw4.MapClone", spec := "mapClone", inPlace := ["slices.overlaps[int64]"], unfollowed := true, recurses := true, apart := false }
def MapCloneSaid : Prop := mapCloneRow.holds Try.pinned (OpenSpec.ofChange mapCloneSpec)

/-- ITS FALSE NEIGHBOUR: 'it returns false'. Refute it at one input. -/
def mapCloneWrong : ChangeSpec := { name := "mapClone", fn := fun _ => fun
  | [d1, d2] => { results := [.lit (.bool false)], args := [d1, d2] }
  | _ => none }
def MapCloneWrongFalsely : Prop := mapCloneRow.holds Try.pinned (OpenSpec.ofChange mapCloneWrong)

/- THE SECOND FORM. 'bulk': how many values and letters a reading holds, each counted each time it is reached (what is shared counts as often as it is met; a slice's spare places count too). A statement '..UptoSaid' is the law's where the arguments, and the package variables that the reading takes, are together of bulk at most 1048576: NARROWER than '..Said'. Prove '..Said' where nothing that the law and all that it calls make is longer than what came in: it says more and counts as full. Else prove '..UptoSaid'. A law counts once. -/
mutual
def uptoBulk {H : Type} : DataW H → Nat
  | .lit (.string bytes) => bytes.length + 1
  | .lit _ => 1
  | .nil => 1
  | .ptr d => uptoBulk d + 1
  | .slice elems spare => uptoBulkAll elems + uptoBulkAll spare + 1
  | .agg parts => uptoBulkAll parts + 1
  | .iface _ d => uptoBulk d + 1
  | .map entries => uptoBulkEntries entries + 1
  | .held _ => 1
def uptoBulkAll {H : Type} : List (DataW H) → Nat
  | [] => 0
  | d :: r => uptoBulk d + uptoBulkAll r
def uptoBulkEntries {H : Type} : List (Lit × DataW H) → Nat
  | [] => 0
  | x :: r => uptoBulkEntry x + uptoBulkEntries r
def uptoBulkEntry {H : Type} : Lit × DataW H → Nat
  | (.string bytes, d) => bytes.length + uptoBulk d + 1
  | (_, d) => uptoBulk d + 1
 end
def uptoSmall : (H : Type) → List (DataW H) → Bool := fun _ ds => decide (uptoBulkAll ds ≤ 1048576)
def OpenSpec.upto (s : _root_.Go.ChangeSpec) : _root_.Go.OpenSpec := { _root_.Go.OpenSpec.ofChange s with cond := some uptoSmall }

/-- 'ordinatelaw4.MapNear', WHERE WHAT IT READS IS OF BULK AT MOST 1048576: true; the input reads as it did. -/
def mapNearUptoRow : OpenClaim := { program := "ytdgolnenpnkjbaa", sum := "248a9963513f7c530ce0d47403f552c6643f4f6ea71bf7c2e92027b0026cbe11", func := "ordinate/ordinatelaw4.MapNear", spec := "mapNear", inPlace := ["slices.overlaps[int64]"], unfollowed := true, recurses := true, apart := false, narrowed := true }
def MapNearUptoSaid : Prop := mapNearUptoRow.holds Try.pinned (OpenSpec.upto mapNearSpec)

/-- 'ordinatelaw4.MapTexts', WHERE WHAT IT READS IS OF BULK AT MOST 1048576: true; the input reads as it did. -/
def mapTextsUptoRow : OpenClaim := { program := "ytdgolnenpnkjbaa", sum := "248a9963513f7c530ce0d47403f552c6643f4f6ea71bf7c2e92027b0026cbe11", func := "ordinate/ordinatelaw4.MapTexts", spec := "mapTexts", inPlace := ["slices.overlaps[int64]", "slices.overlaps[string]", "slices.overlaps[bool]"], unfollowed := true, recurses := true, apart := false, narrowed := true }
def MapTextsUptoSaid : Prop := mapTextsUptoRow.holds Try.pinned (OpenSpec.upto mapTextsSpec)

/-- 'ordinatelaw4.MapKnown', WHERE WHAT IT READS IS OF BULK AT MOST 1048576: true; the input reads as it did. -/
def mapKnownUptoRow : OpenClaim := { program := "ytdgolnenpnkjbaa", sum := "248a9963513f7c530ce0d47403f552c6643f4f6ea71bf7c2e92027b0026cbe11", func := "ordinate/ordinatelaw4.MapKnown", spec := "mapKnown", inPlace := ["slices.overlaps[int64]"], unfollowed := true, recurses := true, apart := false, narrowed := true }
def MapKnownUptoSaid : Prop := mapKnownUptoRow.holds Try.pinned (OpenSpec.upto mapKnownSpec)

/-- 'ordinatelaw4.MapRange', WHERE WHAT IT READS IS OF BULK AT MOST 1048576: true; the input reads as it did. -/
def mapRangeUptoRow : OpenClaim := { program := "ytdgolnenpnkjbaa", sum := "248a9963513f7c530ce0d47403f552c6643f4f6ea71bf7c2e92027b0026cbe11", func := "ordinate/ordinatelaw4.MapRange", spec := "mapRange", inPlace := ["slices.overlaps[int64]"], unfollowed := true, recurses := true, apart := false, narrowed := true }
def MapRangeUptoSaid : Prop := mapRangeUptoRow.holds Try.pinned (OpenSpec.upto mapRangeSpec)

/-- 'ordinatelaw4.MapPlays', WHERE WHAT IT READS IS OF BULK AT MOST 1048576: true; the input reads as it did. -/
def mapPlaysUptoRow : OpenClaim := { program := "ytdgolnenpnkjbaa", sum := "248a9963513f7c530ce0d47403f552c6643f4f6ea71bf7c2e92027b0026cbe11", func := "ordinate/ordinatelaw4.MapPlays", spec := "mapPlays", inPlace := ["slices.overlaps[int64]"], unfollowed := true, recurses := true, apart := false, narrowed := true }
def MapPlaysUptoSaid : Prop := mapPlaysUptoRow.holds Try.pinned (OpenSpec.upto mapPlaysSpec)

/-- 'ordinatelaw4.MapOrder', WHERE WHAT IT READS IS OF BULK AT MOST 1048576: true; the input reads as it did. -/
def mapOrderUptoRow : OpenClaim := { program := "ytdgolnenpnkjbaa", sum := "248a9963513f7c530ce0d47403f552c6643f4f6ea71bf7c2e92027b0026cbe11", func := "ordinate/ordinatelaw4.MapOrder", spec := "mapOrder", inPlace := ["slices.overlaps[int64]"], unfollowed := true, recurses := true, apart := false, narrowed := true }
def MapOrderUptoSaid : Prop := mapOrderUptoRow.holds Try.pinned (OpenSpec.upto mapOrderSpec)

/-- 'ordinatelaw4.MapClone', WHERE WHAT IT READS IS OF BULK AT MOST 1048576: true; the input reads as it did. -/
def mapCloneUptoRow : OpenClaim := { program := "ytdgolnenpnkjbaa", sum := "248a9963513f7c530ce0d47403f552c6643f4f6ea71bf7c2e92027b0026cbe11", func := "ordinate/ordinatelaw4.MapClone", spec := "mapClone", inPlace := ["slices.overlaps[int64]"], unfollowed := true, recurses := true, apart := false, narrowed := true }
def MapCloneUptoSaid : Prop := mapCloneUptoRow.holds Try.pinned (OpenSpec.upto mapCloneSpec)

end Rows
end Go.Proofs.Ytdgolnenpnkjbaa
