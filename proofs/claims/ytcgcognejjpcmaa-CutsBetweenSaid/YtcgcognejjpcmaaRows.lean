/-
  No cell of these rows narrows 'for every input' (looked for: loops, veiled, ifaces, maps, wideKeys, modest, calm, conditions, laid).
  DERIVED. THE GIVEN ROWS OF THIS SEAT. 13 by the template 'for every input the law returns true; each argument reads behind the call as it read before'; 0 by the template 'total and deterministic' (their statements: YtcgcognejjpcmaaTotals.lean).
  GIVEN WITH THE SEED: the statements are not yours to turn. If you find one false, say at which input.
  Laid BY PROGRAM, IN A SANDBOX (cutbox-rows.mjs): the forced cells as the released guide's own fill.sh prints them over the translation 5c31156125e0b1bd… (all of the seat's roots in one cut). By AI agents, Wed Nov 11 2026. No macro, syntax, notation, axiom, sorry.
-/
import Derived.Test.YtcgcognejjpcmaaChecked
import GoSem.Claim
import GoSem.ClaimJoined
import GoSem.ClaimMapViews
import Derived.JoinedTies
import Derived.KernelRfl
namespace Go.Proofs.Ytcgcognejjpcmaa
/- THE CELL 'sum', in the pinned program and in every row, IS THE sha256 OF THE DUMP (.gsa) THAT YtcgcognejjpcmaaProg.lean LOADS. Nothing in Lean hashes anything: it is a label: what it is worth is what the hold of that sum in a sandbox is worth. -/
noncomputable def Try.pinned : Pinned := { name := "ytcgcognejjpcmaa", sum := "5c31156125e0b1bd3f3b823de81583ab7743cbf97a2e6bf03cc1d25fc48cee81", checked := Try.checked }
namespace Rows
def none {H : Type} : Left H := { results := [], args := [] }

/-- 'sallyportlaw08.CutsCovers': WHATEVER THE INPUT: true; the input reads as it did. -/
def cutsCoversSpec : ChangeSpec := { name := "cutsCovers", fn := fun _ => fun
  | [d1, d2, d3] => { results := [.lit (.bool true)], args := [d1, d2, d3] }
  | _ => none }
def cutsCoversRow : OpenClaim := { program := "ytcgcognejjpcmaa", sum := "5c31156125e0b1bd3f3b823de81583ab7743cbf97a2e6bf03cc1d25fc48cee81", func := "sallyport/sallyportlaw08.CutsCovers", spec := "cutsCovers", unfollowed := true, recurses := true, apart := false }
def CutsCoversSaid : Prop := cutsCoversRow.holds Try.pinned (OpenSpec.ofChange cutsCoversSpec)

/-- ITS FALSE NEIGHBOUR: 'it returns false'. Refute it at one input. -/
def cutsCoversWrong : ChangeSpec := { name := "cutsCovers", fn := fun _ => fun
  | [d1, d2, d3] => { results := [.lit (.bool false)], args := [d1, d2, d3] }
  | _ => none }
def CutsCoversWrongFalsely : Prop := cutsCoversRow.holds Try.pinned (OpenSpec.ofChange cutsCoversWrong)

/-- 'sallyportlaw08.CutsSame': WHATEVER THE INPUT: true; the input reads as it did. -/
def cutsSameSpec : ChangeSpec := { name := "cutsSame", fn := fun _ => fun
  | [d1, d2] => { results := [.lit (.bool true)], args := [d1, d2] }
  | _ => none }
def cutsSameRow : OpenClaim := { program := "ytcgcognejjpcmaa", sum := "5c31156125e0b1bd3f3b823de81583ab7743cbf97a2e6bf03cc1d25fc48cee81", func := "sallyport/sallyportlaw08.CutsSame", spec := "cutsSame", unfollowed := true, recurses := true, apart := false }
def CutsSameSaid : Prop := cutsSameRow.holds Try.pinned (OpenSpec.ofChange cutsSameSpec)

/-- ITS FALSE NEIGHBOUR: 'it returns false'. Refute it at one input. -/
def cutsSameWrong : ChangeSpec := { name := "cutsSame", fn := fun _ => fun
  | [d1, d2] => { results := [.lit (.bool false)], args := [d1, d2] }
  | _ => none }
def CutsSameWrongFalsely : Prop := cutsSameRow.holds Try.pinned (OpenSpec.ofChange cutsSameWrong)

/-- 'sallyportlaw09.ClassifyUndo': WHATEVER THE INPUT: true; the input reads as it did. -/
def classifyUndoSpec : ChangeSpec := { name := "classifyUndo", fn := fun _ => fun
  | [d1, d2, d3, d4] => { results := [.lit (.bool true)], args := [d1, d2, d3, d4] }
  | _ => none }
def classifyUndoRow : OpenClaim := { program := "ytcgcognejjpcmaa", sum := "5c31156125e0b1bd3f3b823de81583ab7743cbf97a2e6bf03cc1d25fc48cee81", func := "sallyport/sallyportlaw09.ClassifyUndo", spec := "classifyUndo", inPlace := ["math/bits.Sub64", "math/bits.Add64", "slices.overlaps[sallyport/api.Entry]"], unfollowed := true, recurses := true, apart := false }
def ClassifyUndoSaid : Prop := classifyUndoRow.holds Try.pinned (OpenSpec.ofChange classifyUndoSpec)

/-- ITS FALSE NEIGHBOUR: 'it returns false'. Refute it at one input. -/
def classifyUndoWrong : ChangeSpec := { name := "classifyUndo", fn := fun _ => fun
  | [d1, d2, d3, d4] => { results := [.lit (.bool false)], args := [d1, d2, d3, d4] }
  | _ => none }
def ClassifyUndoWrongFalsely : Prop := classifyUndoRow.holds Try.pinned (OpenSpec.ofChange classifyUndoWrong)

/-- 'sallyportlaw08.CutsHalves': WHATEVER THE INPUT: true; the input reads as it did. -/
def cutsHalvesSpec : ChangeSpec := { name := "cutsHalves", fn := fun _ => fun
  | [d1, d2, d3, d4] => { results := [.lit (.bool true)], args := [d1, d2, d3, d4] }
  | _ => none }
def cutsHalvesRow : OpenClaim := { program := "ytcgcognejjpcmaa", sum := "5c31156125e0b1bd3f3b823de81583ab7743cbf97a2e6bf03cc1d25fc48cee81", func := "sallyport/sallyportlaw08.CutsHalves", spec := "cutsHalves", inPlace := ["math/bits.Add64"], unfollowed := true, recurses := true, apart := false }
def CutsHalvesSaid : Prop := cutsHalvesRow.holds Try.pinned (OpenSpec.ofChange cutsHalvesSpec)

/-- ITS FALSE NEIGHBOUR: 'it returns false'. Refute it at one input. -/
def cutsHalvesWrong : ChangeSpec := { name := "cutsHalves", fn := fun _ => fun
  | [d1, d2, d3, d4] => { results := [.lit (.bool false)], args := [d1, d2, d3, d4] }
  | _ => none }
def CutsHalvesWrongFalsely : Prop := cutsHalvesRow.holds Try.pinned (OpenSpec.ofChange cutsHalvesWrong)

/-- 'sallyportlaw09.ClassifyChanges': WHATEVER THE INPUT: true; the input reads as it did. -/
def classifyChangesSpec : ChangeSpec := { name := "classifyChanges", fn := fun _ => fun
  | [d1, d2, d3] => { results := [.lit (.bool true)], args := [d1, d2, d3] }
  | _ => none }
def classifyChangesRow : OpenClaim := { program := "ytcgcognejjpcmaa", sum := "5c31156125e0b1bd3f3b823de81583ab7743cbf97a2e6bf03cc1d25fc48cee81", func := "sallyport/sallyportlaw09.ClassifyChanges", spec := "classifyChanges", inPlace := ["math/bits.Sub64", "math/bits.Add64", "slices.overlaps[sallyport/api.Entry]"], unfollowed := true, recurses := true, apart := false }
def ClassifyChangesSaid : Prop := classifyChangesRow.holds Try.pinned (OpenSpec.ofChange classifyChangesSpec)

/-- ITS FALSE NEIGHBOUR: 'it returns false'. Refute it at one input. -/
def classifyChangesWrong : ChangeSpec := { name := "classifyChanges", fn := fun _ => fun
  | [d1, d2, d3] => { results := [.lit (.bool false)], args := [d1, d2, d3] }
  | _ => none }
def ClassifyChangesWrongFalsely : Prop := classifyChangesRow.holds Try.pinned (OpenSpec.ofChange classifyChangesWrong)

/-- 'sallyportlaw08.CutsBoxes': WHATEVER THE INPUT: true; the input reads as it did. -/
def cutsBoxesSpec : ChangeSpec := { name := "cutsBoxes", fn := fun _ => fun
  | [d1, d2, d3] => { results := [.lit (.bool true)], args := [d1, d2, d3] }
  | _ => none }
def cutsBoxesRow : OpenClaim := { program := "ytcgcognejjpcmaa", sum := "5c31156125e0b1bd3f3b823de81583ab7743cbf97a2e6bf03cc1d25fc48cee81", func := "sallyport/sallyportlaw08.CutsBoxes", spec := "cutsBoxes", unfollowed := true, recurses := true, apart := false }
def CutsBoxesSaid : Prop := cutsBoxesRow.holds Try.pinned (OpenSpec.ofChange cutsBoxesSpec)

/-- ITS FALSE NEIGHBOUR: 'it returns false'. Refute it at one input. -/
def cutsBoxesWrong : ChangeSpec := { name := "cutsBoxes", fn := fun _ => fun
  | [d1, d2, d3] => { results := [.lit (.bool false)], args := [d1, d2, d3] }
  | _ => none }
def CutsBoxesWrongFalsely : Prop := cutsBoxesRow.holds Try.pinned (OpenSpec.ofChange cutsBoxesWrong)

/-- 'sallyportlaw08.CutsMeets': WHATEVER THE INPUT: true; the input reads as it did. -/
def cutsMeetsSpec : ChangeSpec := { name := "cutsMeets", fn := fun _ => fun
  | [d1, d2, d3] => { results := [.lit (.bool true)], args := [d1, d2, d3] }
  | _ => none }
def cutsMeetsRow : OpenClaim := { program := "ytcgcognejjpcmaa", sum := "5c31156125e0b1bd3f3b823de81583ab7743cbf97a2e6bf03cc1d25fc48cee81", func := "sallyport/sallyportlaw08.CutsMeets", spec := "cutsMeets", unfollowed := true, recurses := true, apart := false }
def CutsMeetsSaid : Prop := cutsMeetsRow.holds Try.pinned (OpenSpec.ofChange cutsMeetsSpec)

/-- ITS FALSE NEIGHBOUR: 'it returns false'. Refute it at one input. -/
def cutsMeetsWrong : ChangeSpec := { name := "cutsMeets", fn := fun _ => fun
  | [d1, d2, d3] => { results := [.lit (.bool false)], args := [d1, d2, d3] }
  | _ => none }
def CutsMeetsWrongFalsely : Prop := cutsMeetsRow.holds Try.pinned (OpenSpec.ofChange cutsMeetsWrong)

/-- 'sallyportlaw08.CutsBetween': WHATEVER THE INPUT: true; the input reads as it did. -/
def cutsBetweenSpec : ChangeSpec := { name := "cutsBetween", fn := fun _ => fun
  | [d1, d2, d3, d4, d5] => { results := [.lit (.bool true)], args := [d1, d2, d3, d4, d5] }
  | _ => none }
def cutsBetweenRow : OpenClaim := { program := "ytcgcognejjpcmaa", sum := "5c31156125e0b1bd3f3b823de81583ab7743cbf97a2e6bf03cc1d25fc48cee81", func := "sallyport/sallyportlaw08.CutsBetween", spec := "cutsBetween", inPlace := ["math/bits.Sub64"], unfollowed := true, recurses := true, apart := false }
def CutsBetweenSaid : Prop := cutsBetweenRow.holds Try.pinned (OpenSpec.ofChange cutsBetweenSpec)

/-- ITS FALSE NEIGHBOUR: 'it returns false'. Refute it at one input. -/
def cutsBetweenWrong : ChangeSpec := { name := "cutsBetween", fn := fun _ => fun
  | [d1, d2, d3, d4, d5] => { results := [.lit (.bool false)], args := [d1, d2, d3, d4, d5] }
  | _ => none }
def CutsBetweenWrongFalsely : Prop := cutsBetweenRow.holds Try.pinned (OpenSpec.ofChange cutsBetweenWrong)

/-- 'sallyportlaw08.CutsSplits': WHATEVER THE INPUT: true; the input reads as it did. -/
def cutsSplitsSpec : ChangeSpec := { name := "cutsSplits", fn := fun _ => fun
  | [d1, d2, d3, d4] => { results := [.lit (.bool true)], args := [d1, d2, d3, d4] }
  | _ => none }
def cutsSplitsRow : OpenClaim := { program := "ytcgcognejjpcmaa", sum := "5c31156125e0b1bd3f3b823de81583ab7743cbf97a2e6bf03cc1d25fc48cee81", func := "sallyport/sallyportlaw08.CutsSplits", spec := "cutsSplits", inPlace := ["math/bits.Add64", "math/bits.Sub64"], unfollowed := true, recurses := true, apart := false }
def CutsSplitsSaid : Prop := cutsSplitsRow.holds Try.pinned (OpenSpec.ofChange cutsSplitsSpec)

/-- ITS FALSE NEIGHBOUR: 'it returns false'. Refute it at one input. -/
def cutsSplitsWrong : ChangeSpec := { name := "cutsSplits", fn := fun _ => fun
  | [d1, d2, d3, d4] => { results := [.lit (.bool false)], args := [d1, d2, d3, d4] }
  | _ => none }
def CutsSplitsWrongFalsely : Prop := cutsSplitsRow.holds Try.pinned (OpenSpec.ofChange cutsSplitsWrong)

/-- 'sallyportlaw09.ClassifyFirst': WHATEVER THE INPUT: true; the input reads as it did. -/
def classifyFirstSpec : ChangeSpec := { name := "classifyFirst", fn := fun _ => fun
  | [d1, d2] => { results := [.lit (.bool true)], args := [d1, d2] }
  | _ => none }
def classifyFirstRow : OpenClaim := { program := "ytcgcognejjpcmaa", sum := "5c31156125e0b1bd3f3b823de81583ab7743cbf97a2e6bf03cc1d25fc48cee81", func := "sallyport/sallyportlaw09.ClassifyFirst", spec := "classifyFirst", inPlace := ["math/bits.Sub64", "math/bits.Add64"], unfollowed := true, recurses := true, apart := false }
def ClassifyFirstSaid : Prop := classifyFirstRow.holds Try.pinned (OpenSpec.ofChange classifyFirstSpec)

/-- ITS FALSE NEIGHBOUR: 'it returns false'. Refute it at one input. -/
def classifyFirstWrong : ChangeSpec := { name := "classifyFirst", fn := fun _ => fun
  | [d1, d2] => { results := [.lit (.bool false)], args := [d1, d2] }
  | _ => none }
def ClassifyFirstWrongFalsely : Prop := classifyFirstRow.holds Try.pinned (OpenSpec.ofChange classifyFirstWrong)

/-- 'sallyportlaw09.ClassifyBehind': WHATEVER THE INPUT: true; the input reads as it did. -/
def classifyBehindSpec : ChangeSpec := { name := "classifyBehind", fn := fun _ => fun
  | [d1, d2, d3] => { results := [.lit (.bool true)], args := [d1, d2, d3] }
  | _ => none }
def classifyBehindRow : OpenClaim := { program := "ytcgcognejjpcmaa", sum := "5c31156125e0b1bd3f3b823de81583ab7743cbf97a2e6bf03cc1d25fc48cee81", func := "sallyport/sallyportlaw09.ClassifyBehind", spec := "classifyBehind", inPlace := ["math/bits.Sub64", "math/bits.Add64"], unfollowed := true, recurses := true, apart := false }
def ClassifyBehindSaid : Prop := classifyBehindRow.holds Try.pinned (OpenSpec.ofChange classifyBehindSpec)

/-- ITS FALSE NEIGHBOUR: 'it returns false'. Refute it at one input. -/
def classifyBehindWrong : ChangeSpec := { name := "classifyBehind", fn := fun _ => fun
  | [d1, d2, d3] => { results := [.lit (.bool false)], args := [d1, d2, d3] }
  | _ => none }
def ClassifyBehindWrongFalsely : Prop := classifyBehindRow.holds Try.pinned (OpenSpec.ofChange classifyBehindWrong)

/-- 'sallyportlaw09.ClassifyFew': WHATEVER THE INPUT: true; the input reads as it did. -/
def classifyFewSpec : ChangeSpec := { name := "classifyFew", fn := fun _ => fun
  | [d1, d2] => { results := [.lit (.bool true)], args := [d1, d2] }
  | _ => none }
def classifyFewRow : OpenClaim := { program := "ytcgcognejjpcmaa", sum := "5c31156125e0b1bd3f3b823de81583ab7743cbf97a2e6bf03cc1d25fc48cee81", func := "sallyport/sallyportlaw09.ClassifyFew", spec := "classifyFew", inPlace := ["math/bits.Sub64", "math/bits.Add64"], unfollowed := true, recurses := true, apart := false }
def ClassifyFewSaid : Prop := classifyFewRow.holds Try.pinned (OpenSpec.ofChange classifyFewSpec)

/-- ITS FALSE NEIGHBOUR: 'it returns false'. Refute it at one input. -/
def classifyFewWrong : ChangeSpec := { name := "classifyFew", fn := fun _ => fun
  | [d1, d2] => { results := [.lit (.bool false)], args := [d1, d2] }
  | _ => none }
def ClassifyFewWrongFalsely : Prop := classifyFewRow.holds Try.pinned (OpenSpec.ofChange classifyFewWrong)

/-- 'sallyportlaw09.ClassifyBuilds': WHATEVER THE INPUT: true; the input reads as it did. -/
def classifyBuildsSpec : ChangeSpec := { name := "classifyBuilds", fn := fun _ => fun
  | [d1, d2] => { results := [.lit (.bool true)], args := [d1, d2] }
  | _ => none }
def classifyBuildsRow : OpenClaim := { program := "ytcgcognejjpcmaa", sum := "5c31156125e0b1bd3f3b823de81583ab7743cbf97a2e6bf03cc1d25fc48cee81", func := "sallyport/sallyportlaw09.ClassifyBuilds", spec := "classifyBuilds", inPlace := ["math/bits.Sub64", "math/bits.Add64"], unfollowed := true, recurses := true, apart := false }
def ClassifyBuildsSaid : Prop := classifyBuildsRow.holds Try.pinned (OpenSpec.ofChange classifyBuildsSpec)

/-- ITS FALSE NEIGHBOUR: 'it returns false'. Refute it at one input. -/
def classifyBuildsWrong : ChangeSpec := { name := "classifyBuilds", fn := fun _ => fun
  | [d1, d2] => { results := [.lit (.bool false)], args := [d1, d2] }
  | _ => none }
def ClassifyBuildsWrongFalsely : Prop := classifyBuildsRow.holds Try.pinned (OpenSpec.ofChange classifyBuildsWrong)

/- THE SECOND FORM. 'bulk': how many values and letters a reading holds, each counted each time it is reached (what is shared counts as often as it is met; a slice's spare places count too). A statement '..UptoSaid' is the law's where the arguments, and the package variables that the reading takes, are together of bulk at most 1048576: NARROWER than '..Said'. Prove '..Said' where nothing that the law and all that it calls make is longer than what came in: it says more and counts as full. Else prove '..UptoSaid'. A law counts once. -/
mutual
def uptoBulk {H : Type} : DataW H → Nat
  | .lit (.string bytes) => bytes.length + 1
  | .lit _ => 1
  | .nil => 1
  | .ptr d => uptoBulk d + 1
  | .slice elems spare => uptoBulkAll elems + uptoBulkAll spare + 1
  | .agg parts => uptoBulkAll parts + 1
  | .iface _ d => uptoBulk d + 1
  | .map entries => uptoBulkEntries entries + 1
  | .held _ => 1
def uptoBulkAll {H : Type} : List (DataW H) → Nat
  | [] => 0
  | d :: r => uptoBulk d + uptoBulkAll r
def uptoBulkEntries {H : Type} : List (Lit × DataW H) → Nat
  | [] => 0
  | x :: r => uptoBulkEntry x + uptoBulkEntries r
def uptoBulkEntry {H : Type} : Lit × DataW H → Nat
  | (.string bytes, d) => bytes.length + uptoBulk d + 1
  | (_, d) => uptoBulk d + 1
 end
def uptoSmall : (H : Type) → List (DataW H) → Bool := fun _ ds => decide (uptoBulkAll ds ≤ 1048576)
def OpenSpec.upto (s : _root_.Go.ChangeSpec) : _root_.Go.OpenSpec := { _root_.Go.OpenSpec.ofChange s with cond := some uptoSmall }

/-- 'sallyportlaw08.CutsCovers', WHERE WHAT IT READS IS OF BULK AT MOST 1048576: true; the input reads as it did. -/
def cutsCoversUptoRow : OpenClaim := { program := "ytcgcognejjpcmaa", sum := "5c31156125e0b1bd3f3b823de81583ab7743cbf97a2e6bf03cc1d25fc48cee81", func := "sallyport/sallyportlaw08.CutsCovers", spec := "cutsCovers", unfollowed := true, recurses := true, apart := false, narrowed := true }
def CutsCoversUptoSaid : Prop := cutsCoversUptoRow.holds Try.pinned (OpenSpec.upto cutsCoversSpec)

/-- 'sallyportlaw08.CutsSame', WHERE WHAT IT READS IS OF BULK AT MOST 1048576: true; the input reads as it did. -/
def cutsSameUptoRow : OpenClaim := { program := "ytcgcognejjpcmaa", sum := "5c31156125e0b1bd3f3b823de81583ab7743cbf97a2e6bf03cc1d25fc48cee81", func := "sallyport/sallyportlaw08.CutsSame", spec := "cutsSame", unfollowed := true, recurses := true, apart := false, narrowed := true }
def CutsSameUptoSaid : Prop := cutsSameUptoRow.holds Try.pinned (OpenSpec.upto cutsSameSpec)

/-- 'sallyportlaw09.ClassifyUndo', WHERE WHAT IT READS IS OF BULK AT MOST 1048576: true; the input reads as it did. -/
def classifyUndoUptoRow : OpenClaim := { program := "ytcgcognejjpcmaa", sum := "5c31156125e0b1bd3f3b823de81583ab7743cbf97a2e6bf03cc1d25fc48cee81", func := "sallyport/sallyportlaw09.ClassifyUndo", spec := "classifyUndo", inPlace := ["math/bits.Sub64", "math/bits.Add64", "slices.overlaps[sallyport/api.Entry]"], unfollowed := true, recurses := true, apart := false, narrowed := true }
def ClassifyUndoUptoSaid : Prop := classifyUndoUptoRow.holds Try.pinned (OpenSpec.upto classifyUndoSpec)

/-- 'sallyportlaw08.CutsHalves', WHERE WHAT IT READS IS OF BULK AT MOST 1048576: true; the input reads as it did. -/
def cutsHalvesUptoRow : OpenClaim := { program := "ytcgcognejjpcmaa", sum := "5c31156125e0b1bd3f3b823de81583ab7743cbf97a2e6bf03cc1d25fc48cee81", func := "sallyport/sallyportlaw08.CutsHalves", spec := "cutsHalves", inPlace := ["math/bits.Add64"], unfollowed := true, recurses := true, apart := false, narrowed := true }
def CutsHalvesUptoSaid : Prop := cutsHalvesUptoRow.holds Try.pinned (OpenSpec.upto cutsHalvesSpec)

/-- 'sallyportlaw09.ClassifyChanges', WHERE WHAT IT READS IS OF BULK AT MOST 1048576: true; the input reads as it did. -/
def classifyChangesUptoRow : OpenClaim := { program := "ytcgcognejjpcmaa", sum := "5c31156125e0b1bd3f3b823de81583ab7743cbf97a2e6bf03cc1d25fc48cee81", func := "sallyport/sallyportlaw09.ClassifyChanges", spec := "classifyChanges", inPlace := ["math/bits.Sub64", "math/bits.Add64", "slices.overlaps[sallyport/api.Entry]"], unfollowed := true, recurses := true, apart := false, narrowed := true }
def ClassifyChangesUptoSaid : Prop := classifyChangesUptoRow.holds Try.pinned (OpenSpec.upto classifyChangesSpec)

/-- 'sallyportlaw08.CutsBoxes', WHERE WHAT IT READS IS OF BULK AT MOST 1048576: true; the input reads as it did. -/
def cutsBoxesUptoRow : OpenClaim := { program := "ytcgcognejjpcmaa", sum := "5c31156125e0b1bd3f3b823de81583ab7743cbf97a2e6bf03cc1d25fc48cee81", func := "sallyport/sallyportlaw08.CutsBoxes", spec := "cutsBoxes", unfollowed := true, recurses := true, apart := false, narrowed := true }
def CutsBoxesUptoSaid : Prop := cutsBoxesUptoRow.holds Try.pinned (OpenSpec.upto cutsBoxesSpec)

/-- 'sallyportlaw08.CutsMeets', WHERE WHAT IT READS IS OF BULK AT MOST 1048576: true; the input reads as it did. -/
def cutsMeetsUptoRow : OpenClaim := { program := "ytcgcognejjpcmaa", sum := "5c31156125e0b1bd3f3b823de81583ab7743cbf97a2e6bf03cc1d25fc48cee81", func := "sallyport/sallyportlaw08.CutsMeets", spec := "cutsMeets", unfollowed := true, recurses := true, apart := false, narrowed := true }
def CutsMeetsUptoSaid : Prop := cutsMeetsUptoRow.holds Try.pinned (OpenSpec.upto cutsMeetsSpec)

/-- 'sallyportlaw08.CutsBetween', WHERE WHAT IT READS IS OF BULK AT MOST 1048576: true; the input reads as it did. -/
def cutsBetweenUptoRow : OpenClaim := { program := "ytcgcognejjpcmaa", sum := "5c31156125e0b1bd3f3b823de81583ab7743cbf97a2e6bf03cc1d25fc48cee81", func := "sallyport/sallyportlaw08.CutsBetween", spec := "cutsBetween", inPlace := ["math/bits.Sub64"], unfollowed := true, recurses := true, apart := false, narrowed := true }
def CutsBetweenUptoSaid : Prop := cutsBetweenUptoRow.holds Try.pinned (OpenSpec.upto cutsBetweenSpec)

/-- 'sallyportlaw08.CutsSplits', WHERE WHAT IT READS IS OF BULK AT MOST 1048576: true; the input reads as it did. -/
def cutsSplitsUptoRow : OpenClaim := { program := "ytcgcognejjpcmaa", sum := "5c31156125e0b1bd3f3b823de81583ab7743cbf97a2e6bf03cc1d25fc48cee81", func := "sallyport/sallyportlaw08.CutsSplits", spec := "cutsSplits", inPlace := ["math/bits.Add64", "math/bits.Sub64"], unfollowed := true, recurses := true, apart := false, narrowed := true }
def CutsSplitsUptoSaid : Prop := cutsSplitsUptoRow.holds Try.pinned (OpenSpec.upto cutsSplitsSpec)

/-- 'sallyportlaw09.ClassifyFirst', WHERE WHAT IT READS IS OF BULK AT MOST 1048576: true; the input reads as it did. -/
def classifyFirstUptoRow : OpenClaim := { program := "ytcgcognejjpcmaa", sum := "5c31156125e0b1bd3f3b823de81583ab7743cbf97a2e6bf03cc1d25fc48cee81", func := "sallyport/sallyportlaw09.ClassifyFirst", spec := "classifyFirst", inPlace := ["math/bits.Sub64", "math/bits.Add64"], unfollowed := true, recurses := true, apart := false, narrowed := true }
def ClassifyFirstUptoSaid : Prop := classifyFirstUptoRow.holds Try.pinned (OpenSpec.upto classifyFirstSpec)

/-- 'sallyportlaw09.ClassifyBehind', WHERE WHAT IT READS IS OF BULK AT MOST 1048576: true; the input reads as it did. -/
def classifyBehindUptoRow : OpenClaim := { program := "ytcgcognejjpcmaa", sum := "5c31156125e0b1bd3f3b823de81583ab7743cbf97a2e6bf03cc1d25fc48cee81", func := "sallyport/sallyportlaw09.ClassifyBehind", spec := "classifyBehind", inPlace := ["math/bits.Sub64", "math/bits.Add64"], unfollowed := true, recurses := true, apart := false, narrowed := true }
def ClassifyBehindUptoSaid : Prop := classifyBehindUptoRow.holds Try.pinned (OpenSpec.upto classifyBehindSpec)

/-- 'sallyportlaw09.ClassifyFew', WHERE WHAT IT READS IS OF BULK AT MOST 1048576: true; the input reads as it did. -/
def classifyFewUptoRow : OpenClaim := { program := "ytcgcognejjpcmaa", sum := "5c31156125e0b1bd3f3b823de81583ab7743cbf97a2e6bf03cc1d25fc48cee81", func := "sallyport/sallyportlaw09.ClassifyFew", spec := "classifyFew", inPlace := ["math/bits.Sub64", "math/bits.Add64"], unfollowed := true, recurses := true, apart := false, narrowed := true }
def ClassifyFewUptoSaid : Prop := classifyFewUptoRow.holds Try.pinned (OpenSpec.upto classifyFewSpec)

/-- 'sallyportlaw09.ClassifyBuilds', WHERE WHAT IT READS IS OF BULK AT MOST 1048576: true; the input reads as it did. -/
def classifyBuildsUptoRow : OpenClaim := { program := "ytcgcognejjpcmaa", sum := "5c31156125e0b1bd3f3b823de81583ab7743cbf97a2e6bf03cc1d25fc48cee81", func := "sallyport/sallyportlaw09.ClassifyBuilds", spec := "classifyBuilds", inPlace := ["math/bits.Sub64", "math/bits.Add64"], unfollowed := true, recurses := true, apart := false, narrowed := true }
def ClassifyBuildsUptoSaid : Prop := classifyBuildsUptoRow.holds Try.pinned (OpenSpec.upto classifyBuildsSpec)

end Rows
end Go.Proofs.Ytcgcognejjpcmaa
