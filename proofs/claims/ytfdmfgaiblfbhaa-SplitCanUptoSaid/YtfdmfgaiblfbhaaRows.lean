/-
  NARROWER THAN 'FOR EVERY INPUT', by the rows' own cells (each row's printed sentence says how): FlatNexts: loops · FlatLists: loops · FlatNames: loops · AdjustSets: loops · FlatStill: loops · CellMays: loops · CellSame: loops · CellCounts: loops · LeastSums: loops · CellFinds: loops · LeastIs: loops · LeastFits: loops · LeastPaths: loops · CellPuts: loops · SpreadAll: loops · SpreadAt: loops · PushIs: loops · PushOne: loops · PushFrames: loops · PushCan: loops · SplitIs: loops · SplitCan: loops.
  DERIVED. THE GIVEN ROWS OF THIS SEAT. 31 by the template 'for every input the law returns true; each argument reads behind the call as it read before'; 0 by the template 'total and deterministic' (their statements: YtfdmfgaiblfbhaaTotals.lean).
  GIVEN WITH THE SEED: the statements are not yours to turn. If you find one false, say at which input.
  Laid BY PROGRAM, IN A SANDBOX (cutbox-rows.mjs): the forced cells as the released guide's own fill.sh prints them over the translation 88f34f5fd86e1679… (all of the seat's roots in one cut). By AI agents, Wed Nov 11 2026. No macro, syntax, notation, axiom, sorry.
-/
import Derived.Test.YtfdmfgaiblfbhaaChecked
import GoSem.Claim
import GoSem.ClaimJoined
import GoSem.ClaimMapViews
import Derived.JoinedTies
import Derived.KernelRfl
namespace Go.Proofs.Ytfdmfgaiblfbhaa
/- THE CELL 'sum', in the pinned program and in every row, IS THE sha256 OF THE DUMP (.gsa) THAT YtfdmfgaiblfbhaaProg.lean LOADS. Nothing in Lean hashes anything: it is a label: what it is worth is what the hold of that sum in a sandbox is worth. -/
noncomputable def Try.pinned : Pinned := { name := "ytfdmfgaiblfbhaa", sum := "88f34f5fd86e16796a7636b630533d6b3403f2b3f6b378b31398ac009261ae2d", checked := Try.checked }
namespace Rows
def none {H : Type} : Left H := { results := [], args := [] }

/-- 'sashlaw07.FlatNexts': WHATEVER THE INPUT: true; the input reads as it did. -/
def flatNextsSpec : ChangeSpec := { name := "flatNexts", fn := fun _ => fun
  | [d1, d2, d3] => { results := [.lit (.bool true)], args := [d1, d2, d3] }
  | _ => none }
def flatNextsRow : OpenClaim := { program := "ytfdmfgaiblfbhaa", sum := "88f34f5fd86e16796a7636b630533d6b3403f2b3f6b378b31398ac009261ae2d", func := "sash/sashlaw07.FlatNexts", spec := "flatNexts", unfollowed := true, recurses := true, loops := true, apart := false }
def FlatNextsSaid : Prop := flatNextsRow.holds Try.pinned (OpenSpec.ofChange flatNextsSpec)

/-- ITS FALSE NEIGHBOUR: 'it returns false'. Refute it at one input. -/
def flatNextsWrong : ChangeSpec := { name := "flatNexts", fn := fun _ => fun
  | [d1, d2, d3] => { results := [.lit (.bool false)], args := [d1, d2, d3] }
  | _ => none }
def FlatNextsWrongFalsely : Prop := flatNextsRow.holds Try.pinned (OpenSpec.ofChange flatNextsWrong)

/-- 'sashlaw07.FlatLists': WHATEVER THE INPUT: true; the input reads as it did. -/
def flatListsSpec : ChangeSpec := { name := "flatLists", fn := fun _ => fun
  | [d1, d2] => { results := [.lit (.bool true)], args := [d1, d2] }
  | _ => none }
def flatListsRow : OpenClaim := { program := "ytfdmfgaiblfbhaa", sum := "88f34f5fd86e16796a7636b630533d6b3403f2b3f6b378b31398ac009261ae2d", func := "sash/sashlaw07.FlatLists", spec := "flatLists", unfollowed := true, recurses := true, loops := true, apart := false }
def FlatListsSaid : Prop := flatListsRow.holds Try.pinned (OpenSpec.ofChange flatListsSpec)

/-- ITS FALSE NEIGHBOUR: 'it returns false'. Refute it at one input. -/
def flatListsWrong : ChangeSpec := { name := "flatLists", fn := fun _ => fun
  | [d1, d2] => { results := [.lit (.bool false)], args := [d1, d2] }
  | _ => none }
def FlatListsWrongFalsely : Prop := flatListsRow.holds Try.pinned (OpenSpec.ofChange flatListsWrong)

/-- 'sashlaw04.RectCuts': WHATEVER THE INPUT: true; the input reads as it did. -/
def rectCutsSpec : ChangeSpec := { name := "rectCuts", fn := fun _ => fun
  | [d1, d2, d3] => { results := [.lit (.bool true)], args := [d1, d2, d3] }
  | _ => none }
def rectCutsRow : OpenClaim := { program := "ytfdmfgaiblfbhaa", sum := "88f34f5fd86e16796a7636b630533d6b3403f2b3f6b378b31398ac009261ae2d", func := "sash/sashlaw04.RectCuts", spec := "rectCuts", apart := false }
def RectCutsSaid : Prop := rectCutsRow.holds Try.pinned (OpenSpec.ofChange rectCutsSpec)

/-- ITS FALSE NEIGHBOUR: 'it returns false'. Refute it at one input. -/
def rectCutsWrong : ChangeSpec := { name := "rectCuts", fn := fun _ => fun
  | [d1, d2, d3] => { results := [.lit (.bool false)], args := [d1, d2, d3] }
  | _ => none }
def RectCutsWrongFalsely : Prop := rectCutsRow.holds Try.pinned (OpenSpec.ofChange rectCutsWrong)

/-- 'sashlaw09.AdjustShares': WHATEVER THE INPUT: true; the input reads as it did. -/
def adjustSharesSpec : ChangeSpec := { name := "adjustShares", fn := fun _ => fun
  | [d1, d2] => { results := [.lit (.bool true)], args := [d1, d2] }
  | _ => none }
def adjustSharesRow : OpenClaim := { program := "ytfdmfgaiblfbhaa", sum := "88f34f5fd86e16796a7636b630533d6b3403f2b3f6b378b31398ac009261ae2d", func := "sash/sashlaw09.AdjustShares", spec := "adjustShares", apart := false }
def AdjustSharesSaid : Prop := adjustSharesRow.holds Try.pinned (OpenSpec.ofChange adjustSharesSpec)

/-- ITS FALSE NEIGHBOUR: 'it returns false'. Refute it at one input. -/
def adjustSharesWrong : ChangeSpec := { name := "adjustShares", fn := fun _ => fun
  | [d1, d2] => { results := [.lit (.bool false)], args := [d1, d2] }
  | _ => none }
def AdjustSharesWrongFalsely : Prop := adjustSharesRow.holds Try.pinned (OpenSpec.ofChange adjustSharesWrong)

/-- 'sashlaw09.AdjustEvens': WHATEVER THE INPUT: true; the input reads as it did. -/
def adjustEvensSpec : ChangeSpec := { name := "adjustEvens", fn := fun _ => fun
  | [d1, d2] => { results := [.lit (.bool true)], args := [d1, d2] }
  | _ => none }
def adjustEvensRow : OpenClaim := { program := "ytfdmfgaiblfbhaa", sum := "88f34f5fd86e16796a7636b630533d6b3403f2b3f6b378b31398ac009261ae2d", func := "sash/sashlaw09.AdjustEvens", spec := "adjustEvens", apart := false }
def AdjustEvensSaid : Prop := adjustEvensRow.holds Try.pinned (OpenSpec.ofChange adjustEvensSpec)

/-- ITS FALSE NEIGHBOUR: 'it returns false'. Refute it at one input. -/
def adjustEvensWrong : ChangeSpec := { name := "adjustEvens", fn := fun _ => fun
  | [d1, d2] => { results := [.lit (.bool false)], args := [d1, d2] }
  | _ => none }
def AdjustEvensWrongFalsely : Prop := adjustEvensRow.holds Try.pinned (OpenSpec.ofChange adjustEvensWrong)

/-- 'sashlaw16.SpreadSizes': WHATEVER THE INPUT: true; the input reads as it did. -/
def spreadSizesSpec : ChangeSpec := { name := "spreadSizes", fn := fun _ => fun
  | [d1, d2] => { results := [.lit (.bool true)], args := [d1, d2] }
  | _ => none }
def spreadSizesRow : OpenClaim := { program := "ytfdmfgaiblfbhaa", sum := "88f34f5fd86e16796a7636b630533d6b3403f2b3f6b378b31398ac009261ae2d", func := "sash/sashlaw16.SpreadSizes", spec := "spreadSizes", apart := false }
def SpreadSizesSaid : Prop := spreadSizesRow.holds Try.pinned (OpenSpec.ofChange spreadSizesSpec)

/-- ITS FALSE NEIGHBOUR: 'it returns false'. Refute it at one input. -/
def spreadSizesWrong : ChangeSpec := { name := "spreadSizes", fn := fun _ => fun
  | [d1, d2] => { results := [.lit (.bool false)], args := [d1, d2] }
  | _ => none }
def SpreadSizesWrongFalsely : Prop := spreadSizesRow.holds Try.pinned (OpenSpec.ofChange spreadSizesWrong)

/-- 'sashlaw07.FlatChanges': WHATEVER THE INPUT: true; the input reads as it did. -/
def flatChangesSpec : ChangeSpec := { name := "flatChanges", fn := fun _ => fun
  | [d1, d2] => { results := [.lit (.bool true)], args := [d1, d2] }
  | _ => none }
def flatChangesRow : OpenClaim := { program := "ytfdmfgaiblfbhaa", sum := "88f34f5fd86e16796a7636b630533d6b3403f2b3f6b378b31398ac009261ae2d", func := "sash/sashlaw07.FlatChanges", spec := "flatChanges", unfollowed := true, recurses := true, apart := false }
def FlatChangesSaid : Prop := flatChangesRow.holds Try.pinned (OpenSpec.ofChange flatChangesSpec)

/-- ITS FALSE NEIGHBOUR: 'it returns false'. Refute it at one input. -/
def flatChangesWrong : ChangeSpec := { name := "flatChanges", fn := fun _ => fun
  | [d1, d2] => { results := [.lit (.bool false)], args := [d1, d2] }
  | _ => none }
def FlatChangesWrongFalsely : Prop := flatChangesRow.holds Try.pinned (OpenSpec.ofChange flatChangesWrong)

/-- 'sashlaw04.RectInside': WHATEVER THE INPUT: true; the input reads as it did. -/
def rectInsideSpec : ChangeSpec := { name := "rectInside", fn := fun _ => fun
  | [d1, d2, d3, d4] => { results := [.lit (.bool true)], args := [d1, d2, d3, d4] }
  | _ => none }
def rectInsideRow : OpenClaim := { program := "ytfdmfgaiblfbhaa", sum := "88f34f5fd86e16796a7636b630533d6b3403f2b3f6b378b31398ac009261ae2d", func := "sash/sashlaw04.RectInside", spec := "rectInside", unfollowed := true, recurses := true, apart := false }
def RectInsideSaid : Prop := rectInsideRow.holds Try.pinned (OpenSpec.ofChange rectInsideSpec)

/-- ITS FALSE NEIGHBOUR: 'it returns false'. Refute it at one input. -/
def rectInsideWrong : ChangeSpec := { name := "rectInside", fn := fun _ => fun
  | [d1, d2, d3, d4] => { results := [.lit (.bool false)], args := [d1, d2, d3, d4] }
  | _ => none }
def RectInsideWrongFalsely : Prop := rectInsideRow.holds Try.pinned (OpenSpec.ofChange rectInsideWrong)

/-- 'sashlaw07.FlatNames': WHATEVER THE INPUT: true; the input reads as it did. -/
def flatNamesSpec : ChangeSpec := { name := "flatNames", fn := fun _ => fun
  | [d1, d2] => { results := [.lit (.bool true)], args := [d1, d2] }
  | _ => none }
def flatNamesRow : OpenClaim := { program := "ytfdmfgaiblfbhaa", sum := "88f34f5fd86e16796a7636b630533d6b3403f2b3f6b378b31398ac009261ae2d", func := "sash/sashlaw07.FlatNames", spec := "flatNames", unfollowed := true, recurses := true, loops := true, apart := false }
def FlatNamesSaid : Prop := flatNamesRow.holds Try.pinned (OpenSpec.ofChange flatNamesSpec)

/-- ITS FALSE NEIGHBOUR: 'it returns false'. Refute it at one input. -/
def flatNamesWrong : ChangeSpec := { name := "flatNames", fn := fun _ => fun
  | [d1, d2] => { results := [.lit (.bool false)], args := [d1, d2] }
  | _ => none }
def FlatNamesWrongFalsely : Prop := flatNamesRow.holds Try.pinned (OpenSpec.ofChange flatNamesWrong)

/-- 'sashlaw09.AdjustSets': WHATEVER THE INPUT: true; the input reads as it did. -/
def adjustSetsSpec : ChangeSpec := { name := "adjustSets", fn := fun _ => fun
  | [d1, d2, d3] => { results := [.lit (.bool true)], args := [d1, d2, d3] }
  | _ => none }
def adjustSetsRow : OpenClaim := { program := "ytfdmfgaiblfbhaa", sum := "88f34f5fd86e16796a7636b630533d6b3403f2b3f6b378b31398ac009261ae2d", func := "sash/sashlaw09.AdjustSets", spec := "adjustSets", recurses := true, loops := true, apart := false }
def AdjustSetsSaid : Prop := adjustSetsRow.holds Try.pinned (OpenSpec.ofChange adjustSetsSpec)

/-- ITS FALSE NEIGHBOUR: 'it returns false'. Refute it at one input. -/
def adjustSetsWrong : ChangeSpec := { name := "adjustSets", fn := fun _ => fun
  | [d1, d2, d3] => { results := [.lit (.bool false)], args := [d1, d2, d3] }
  | _ => none }
def AdjustSetsWrongFalsely : Prop := adjustSetsRow.holds Try.pinned (OpenSpec.ofChange adjustSetsWrong)

/-- 'sashlaw04.RectMeets': WHATEVER THE INPUT: true; the input reads as it did. -/
def rectMeetsSpec : ChangeSpec := { name := "rectMeets", fn := fun _ => fun
  | [d1, d2] => { results := [.lit (.bool true)], args := [d1, d2] }
  | _ => none }
def rectMeetsRow : OpenClaim := { program := "ytfdmfgaiblfbhaa", sum := "88f34f5fd86e16796a7636b630533d6b3403f2b3f6b378b31398ac009261ae2d", func := "sash/sashlaw04.RectMeets", spec := "rectMeets", unfollowed := true, recurses := true, apart := false }
def RectMeetsSaid : Prop := rectMeetsRow.holds Try.pinned (OpenSpec.ofChange rectMeetsSpec)

/-- ITS FALSE NEIGHBOUR: 'it returns false'. Refute it at one input. -/
def rectMeetsWrong : ChangeSpec := { name := "rectMeets", fn := fun _ => fun
  | [d1, d2] => { results := [.lit (.bool false)], args := [d1, d2] }
  | _ => none }
def RectMeetsWrongFalsely : Prop := rectMeetsRow.holds Try.pinned (OpenSpec.ofChange rectMeetsWrong)

/-- 'sashlaw04.RectMays': WHATEVER THE INPUT: true; the input reads as it did. -/
def rectMaysSpec : ChangeSpec := { name := "rectMays", fn := fun _ => fun
  | [d] => { results := [.lit (.bool true)], args := [d] }
  | _ => none }
def rectMaysRow : OpenClaim := { program := "ytfdmfgaiblfbhaa", sum := "88f34f5fd86e16796a7636b630533d6b3403f2b3f6b378b31398ac009261ae2d", func := "sash/sashlaw04.RectMays", spec := "rectMays", unfollowed := true, recurses := true, apart := false }
def RectMaysSaid : Prop := rectMaysRow.holds Try.pinned (OpenSpec.ofChange rectMaysSpec)

/-- ITS FALSE NEIGHBOUR: 'it returns false'. Refute it at one input. -/
def rectMaysWrong : ChangeSpec := { name := "rectMays", fn := fun _ => fun
  | [d] => { results := [.lit (.bool false)], args := [d] }
  | _ => none }
def RectMaysWrongFalsely : Prop := rectMaysRow.holds Try.pinned (OpenSpec.ofChange rectMaysWrong)

/-- 'sashlaw07.FlatStill': WHATEVER THE INPUT: true; the input reads as it did. -/
def flatStillSpec : ChangeSpec := { name := "flatStill", fn := fun _ => fun
  | [d] => { results := [.lit (.bool true)], args := [d] }
  | _ => none }
def flatStillRow : OpenClaim := { program := "ytfdmfgaiblfbhaa", sum := "88f34f5fd86e16796a7636b630533d6b3403f2b3f6b378b31398ac009261ae2d", func := "sash/sashlaw07.FlatStill", spec := "flatStill", unfollowed := true, recurses := true, loops := true, apart := false }
def FlatStillSaid : Prop := flatStillRow.holds Try.pinned (OpenSpec.ofChange flatStillSpec)

/-- ITS FALSE NEIGHBOUR: 'it returns false'. Refute it at one input. -/
def flatStillWrong : ChangeSpec := { name := "flatStill", fn := fun _ => fun
  | [d] => { results := [.lit (.bool false)], args := [d] }
  | _ => none }
def FlatStillWrongFalsely : Prop := flatStillRow.holds Try.pinned (OpenSpec.ofChange flatStillWrong)

/-- 'sashlaw05.CellMays': WHATEVER THE INPUT: true; the input reads as it did. -/
def cellMaysSpec : ChangeSpec := { name := "cellMays", fn := fun _ => fun
  | [d] => { results := [.lit (.bool true)], args := [d] }
  | _ => none }
def cellMaysRow : OpenClaim := { program := "ytfdmfgaiblfbhaa", sum := "88f34f5fd86e16796a7636b630533d6b3403f2b3f6b378b31398ac009261ae2d", func := "sash/sashlaw05.CellMays", spec := "cellMays", inPlace := ["slices.overlaps[int]"], unfollowed := true, recurses := true, loops := true, apart := false }
def CellMaysSaid : Prop := cellMaysRow.holds Try.pinned (OpenSpec.ofChange cellMaysSpec)

/-- ITS FALSE NEIGHBOUR: 'it returns false'. Refute it at one input. -/
def cellMaysWrong : ChangeSpec := { name := "cellMays", fn := fun _ => fun
  | [d] => { results := [.lit (.bool false)], args := [d] }
  | _ => none }
def CellMaysWrongFalsely : Prop := cellMaysRow.holds Try.pinned (OpenSpec.ofChange cellMaysWrong)

/-- 'sashlaw05.CellSame': WHATEVER THE INPUT: true; the input reads as it did. -/
def cellSameSpec : ChangeSpec := { name := "cellSame", fn := fun _ => fun
  | [d1, d2, d3, d4] => { results := [.lit (.bool true)], args := [d1, d2, d3, d4] }
  | _ => none }
def cellSameRow : OpenClaim := { program := "ytfdmfgaiblfbhaa", sum := "88f34f5fd86e16796a7636b630533d6b3403f2b3f6b378b31398ac009261ae2d", func := "sash/sashlaw05.CellSame", spec := "cellSame", inPlace := ["slices.overlaps[int]"], unfollowed := true, recurses := true, loops := true, apart := false }
def CellSameSaid : Prop := cellSameRow.holds Try.pinned (OpenSpec.ofChange cellSameSpec)

/-- ITS FALSE NEIGHBOUR: 'it returns false'. Refute it at one input. -/
def cellSameWrong : ChangeSpec := { name := "cellSame", fn := fun _ => fun
  | [d1, d2, d3, d4] => { results := [.lit (.bool false)], args := [d1, d2, d3, d4] }
  | _ => none }
def CellSameWrongFalsely : Prop := cellSameRow.holds Try.pinned (OpenSpec.ofChange cellSameWrong)

/-- 'sashlaw05.CellCounts': WHATEVER THE INPUT: true; the input reads as it did. -/
def cellCountsSpec : ChangeSpec := { name := "cellCounts", fn := fun _ => fun
  | [d] => { results := [.lit (.bool true)], args := [d] }
  | _ => none }
def cellCountsRow : OpenClaim := { program := "ytfdmfgaiblfbhaa", sum := "88f34f5fd86e16796a7636b630533d6b3403f2b3f6b378b31398ac009261ae2d", func := "sash/sashlaw05.CellCounts", spec := "cellCounts", inPlace := ["slices.overlaps[int]"], unfollowed := true, recurses := true, loops := true, apart := false }
def CellCountsSaid : Prop := cellCountsRow.holds Try.pinned (OpenSpec.ofChange cellCountsSpec)

/-- ITS FALSE NEIGHBOUR: 'it returns false'. Refute it at one input. -/
def cellCountsWrong : ChangeSpec := { name := "cellCounts", fn := fun _ => fun
  | [d] => { results := [.lit (.bool false)], args := [d] }
  | _ => none }
def CellCountsWrongFalsely : Prop := cellCountsRow.holds Try.pinned (OpenSpec.ofChange cellCountsWrong)

/-- 'sashlaw08.LeastSums': WHATEVER THE INPUT: true; the input reads as it did. -/
def leastSumsSpec : ChangeSpec := { name := "leastSums", fn := fun _ => fun
  | [d1, d2] => { results := [.lit (.bool true)], args := [d1, d2] }
  | _ => none }
def leastSumsRow : OpenClaim := { program := "ytfdmfgaiblfbhaa", sum := "88f34f5fd86e16796a7636b630533d6b3403f2b3f6b378b31398ac009261ae2d", func := "sash/sashlaw08.LeastSums", spec := "leastSums", unfollowed := true, recurses := true, loops := true, apart := false }
def LeastSumsSaid : Prop := leastSumsRow.holds Try.pinned (OpenSpec.ofChange leastSumsSpec)

/-- ITS FALSE NEIGHBOUR: 'it returns false'. Refute it at one input. -/
def leastSumsWrong : ChangeSpec := { name := "leastSums", fn := fun _ => fun
  | [d1, d2] => { results := [.lit (.bool false)], args := [d1, d2] }
  | _ => none }
def LeastSumsWrongFalsely : Prop := leastSumsRow.holds Try.pinned (OpenSpec.ofChange leastSumsWrong)

/-- 'sashlaw05.CellFinds': WHATEVER THE INPUT: true; the input reads as it did. -/
def cellFindsSpec : ChangeSpec := { name := "cellFinds", fn := fun _ => fun
  | [d1, d2, d3] => { results := [.lit (.bool true)], args := [d1, d2, d3] }
  | _ => none }
def cellFindsRow : OpenClaim := { program := "ytfdmfgaiblfbhaa", sum := "88f34f5fd86e16796a7636b630533d6b3403f2b3f6b378b31398ac009261ae2d", func := "sash/sashlaw05.CellFinds", spec := "cellFinds", inPlace := ["slices.overlaps[int]"], unfollowed := true, recurses := true, loops := true, apart := false }
def CellFindsSaid : Prop := cellFindsRow.holds Try.pinned (OpenSpec.ofChange cellFindsSpec)

/-- ITS FALSE NEIGHBOUR: 'it returns false'. Refute it at one input. -/
def cellFindsWrong : ChangeSpec := { name := "cellFinds", fn := fun _ => fun
  | [d1, d2, d3] => { results := [.lit (.bool false)], args := [d1, d2, d3] }
  | _ => none }
def CellFindsWrongFalsely : Prop := cellFindsRow.holds Try.pinned (OpenSpec.ofChange cellFindsWrong)

/-- 'sashlaw08.LeastIs': WHATEVER THE INPUT: true; the input reads as it did. -/
def leastIsSpec : ChangeSpec := { name := "leastIs", fn := fun _ => fun
  | [d1, d2, d3, d4] => { results := [.lit (.bool true)], args := [d1, d2, d3, d4] }
  | _ => none }
def leastIsRow : OpenClaim := { program := "ytfdmfgaiblfbhaa", sum := "88f34f5fd86e16796a7636b630533d6b3403f2b3f6b378b31398ac009261ae2d", func := "sash/sashlaw08.LeastIs", spec := "leastIs", unfollowed := true, recurses := true, loops := true, apart := false }
def LeastIsSaid : Prop := leastIsRow.holds Try.pinned (OpenSpec.ofChange leastIsSpec)

/-- ITS FALSE NEIGHBOUR: 'it returns false'. Refute it at one input. -/
def leastIsWrong : ChangeSpec := { name := "leastIs", fn := fun _ => fun
  | [d1, d2, d3, d4] => { results := [.lit (.bool false)], args := [d1, d2, d3, d4] }
  | _ => none }
def LeastIsWrongFalsely : Prop := leastIsRow.holds Try.pinned (OpenSpec.ofChange leastIsWrong)

/-- 'sashlaw08.LeastFits': WHATEVER THE INPUT: true; the input reads as it did. -/
def leastFitsSpec : ChangeSpec := { name := "leastFits", fn := fun _ => fun
  | [d] => { results := [.lit (.bool true)], args := [d] }
  | _ => none }
def leastFitsRow : OpenClaim := { program := "ytfdmfgaiblfbhaa", sum := "88f34f5fd86e16796a7636b630533d6b3403f2b3f6b378b31398ac009261ae2d", func := "sash/sashlaw08.LeastFits", spec := "leastFits", unfollowed := true, recurses := true, loops := true, apart := false }
def LeastFitsSaid : Prop := leastFitsRow.holds Try.pinned (OpenSpec.ofChange leastFitsSpec)

/-- ITS FALSE NEIGHBOUR: 'it returns false'. Refute it at one input. -/
def leastFitsWrong : ChangeSpec := { name := "leastFits", fn := fun _ => fun
  | [d] => { results := [.lit (.bool false)], args := [d] }
  | _ => none }
def LeastFitsWrongFalsely : Prop := leastFitsRow.holds Try.pinned (OpenSpec.ofChange leastFitsWrong)

/-- 'sashlaw08.LeastPaths': WHATEVER THE INPUT: true; the input reads as it did. -/
def leastPathsSpec : ChangeSpec := { name := "leastPaths", fn := fun _ => fun
  | [d1, d2, d3, d4] => { results := [.lit (.bool true)], args := [d1, d2, d3, d4] }
  | _ => none }
def leastPathsRow : OpenClaim := { program := "ytfdmfgaiblfbhaa", sum := "88f34f5fd86e16796a7636b630533d6b3403f2b3f6b378b31398ac009261ae2d", func := "sash/sashlaw08.LeastPaths", spec := "leastPaths", unfollowed := true, recurses := true, loops := true, apart := false }
def LeastPathsSaid : Prop := leastPathsRow.holds Try.pinned (OpenSpec.ofChange leastPathsSpec)

/-- ITS FALSE NEIGHBOUR: 'it returns false'. Refute it at one input. -/
def leastPathsWrong : ChangeSpec := { name := "leastPaths", fn := fun _ => fun
  | [d1, d2, d3, d4] => { results := [.lit (.bool false)], args := [d1, d2, d3, d4] }
  | _ => none }
def LeastPathsWrongFalsely : Prop := leastPathsRow.holds Try.pinned (OpenSpec.ofChange leastPathsWrong)

/-- 'sashlaw05.CellPuts': WHATEVER THE INPUT: true; the input reads as it did. -/
def cellPutsSpec : ChangeSpec := { name := "cellPuts", fn := fun _ => fun
  | [d1, d2, d3, d4] => { results := [.lit (.bool true)], args := [d1, d2, d3, d4] }
  | _ => none }
def cellPutsRow : OpenClaim := { program := "ytfdmfgaiblfbhaa", sum := "88f34f5fd86e16796a7636b630533d6b3403f2b3f6b378b31398ac009261ae2d", func := "sash/sashlaw05.CellPuts", spec := "cellPuts", inPlace := ["slices.overlaps[int]"], unfollowed := true, recurses := true, loops := true, apart := false }
def CellPutsSaid : Prop := cellPutsRow.holds Try.pinned (OpenSpec.ofChange cellPutsSpec)

/-- ITS FALSE NEIGHBOUR: 'it returns false'. Refute it at one input. -/
def cellPutsWrong : ChangeSpec := { name := "cellPuts", fn := fun _ => fun
  | [d1, d2, d3, d4] => { results := [.lit (.bool false)], args := [d1, d2, d3, d4] }
  | _ => none }
def CellPutsWrongFalsely : Prop := cellPutsRow.holds Try.pinned (OpenSpec.ofChange cellPutsWrong)

/-- 'sashlaw12.SplitSizes': WHATEVER THE INPUT: true; the input reads as it did. -/
def splitSizesSpec : ChangeSpec := { name := "splitSizes", fn := fun _ => fun
  | [d1, d2] => { results := [.lit (.bool true)], args := [d1, d2] }
  | _ => none }
def splitSizesRow : OpenClaim := { program := "ytfdmfgaiblfbhaa", sum := "88f34f5fd86e16796a7636b630533d6b3403f2b3f6b378b31398ac009261ae2d", func := "sash/sashlaw12.SplitSizes", spec := "splitSizes", inPlace := ["slices.overlaps[int]"], unfollowed := true, recurses := true, apart := false }
def SplitSizesSaid : Prop := splitSizesRow.holds Try.pinned (OpenSpec.ofChange splitSizesSpec)

/-- ITS FALSE NEIGHBOUR: 'it returns false'. Refute it at one input. -/
def splitSizesWrong : ChangeSpec := { name := "splitSizes", fn := fun _ => fun
  | [d1, d2] => { results := [.lit (.bool false)], args := [d1, d2] }
  | _ => none }
def SplitSizesWrongFalsely : Prop := splitSizesRow.holds Try.pinned (OpenSpec.ofChange splitSizesWrong)

/-- 'sashlaw16.SpreadAll': WHATEVER THE INPUT: true; the input reads as it did. -/
def spreadAllSpec : ChangeSpec := { name := "spreadAll", fn := fun _ => fun
  | [d] => { results := [.lit (.bool true)], args := [d] }
  | _ => none }
def spreadAllRow : OpenClaim := { program := "ytfdmfgaiblfbhaa", sum := "88f34f5fd86e16796a7636b630533d6b3403f2b3f6b378b31398ac009261ae2d", func := "sash/sashlaw16.SpreadAll", spec := "spreadAll", unfollowed := true, recurses := true, loops := true, apart := false }
def SpreadAllSaid : Prop := spreadAllRow.holds Try.pinned (OpenSpec.ofChange spreadAllSpec)

/-- ITS FALSE NEIGHBOUR: 'it returns false'. Refute it at one input. -/
def spreadAllWrong : ChangeSpec := { name := "spreadAll", fn := fun _ => fun
  | [d] => { results := [.lit (.bool false)], args := [d] }
  | _ => none }
def SpreadAllWrongFalsely : Prop := spreadAllRow.holds Try.pinned (OpenSpec.ofChange spreadAllWrong)

/-- 'sashlaw16.SpreadAt': WHATEVER THE INPUT: true; the input reads as it did. -/
def spreadAtSpec : ChangeSpec := { name := "spreadAt", fn := fun _ => fun
  | [d1, d2, d3] => { results := [.lit (.bool true)], args := [d1, d2, d3] }
  | _ => none }
def spreadAtRow : OpenClaim := { program := "ytfdmfgaiblfbhaa", sum := "88f34f5fd86e16796a7636b630533d6b3403f2b3f6b378b31398ac009261ae2d", func := "sash/sashlaw16.SpreadAt", spec := "spreadAt", inPlace := ["slices.overlaps[int]"], unfollowed := true, recurses := true, loops := true, apart := false }
def SpreadAtSaid : Prop := spreadAtRow.holds Try.pinned (OpenSpec.ofChange spreadAtSpec)

/-- ITS FALSE NEIGHBOUR: 'it returns false'. Refute it at one input. -/
def spreadAtWrong : ChangeSpec := { name := "spreadAt", fn := fun _ => fun
  | [d1, d2, d3] => { results := [.lit (.bool false)], args := [d1, d2, d3] }
  | _ => none }
def SpreadAtWrongFalsely : Prop := spreadAtRow.holds Try.pinned (OpenSpec.ofChange spreadAtWrong)

/-- 'sashlaw14.PushIs': WHATEVER THE INPUT: true; the input reads as it did. -/
def pushIsSpec : ChangeSpec := { name := "pushIs", fn := fun _ => fun
  | [d1, d2, d3, d4] => { results := [.lit (.bool true)], args := [d1, d2, d3, d4] }
  | _ => none }
def pushIsRow : OpenClaim := { program := "ytfdmfgaiblfbhaa", sum := "88f34f5fd86e16796a7636b630533d6b3403f2b3f6b378b31398ac009261ae2d", func := "sash/sashlaw14.PushIs", spec := "pushIs", inPlace := ["slices.overlaps[int]"], unfollowed := true, recurses := true, loops := true, apart := false }
def PushIsSaid : Prop := pushIsRow.holds Try.pinned (OpenSpec.ofChange pushIsSpec)

/-- ITS FALSE NEIGHBOUR: 'it returns false'. Refute it at one input. -/
def pushIsWrong : ChangeSpec := { name := "pushIs", fn := fun _ => fun
  | [d1, d2, d3, d4] => { results := [.lit (.bool false)], args := [d1, d2, d3, d4] }
  | _ => none }
def PushIsWrongFalsely : Prop := pushIsRow.holds Try.pinned (OpenSpec.ofChange pushIsWrong)

/-- 'sashlaw14.PushOne': WHATEVER THE INPUT: true; the input reads as it did. -/
def pushOneSpec : ChangeSpec := { name := "pushOne", fn := fun _ => fun
  | [d1, d2, d3, d4] => { results := [.lit (.bool true)], args := [d1, d2, d3, d4] }
  | _ => none }
def pushOneRow : OpenClaim := { program := "ytfdmfgaiblfbhaa", sum := "88f34f5fd86e16796a7636b630533d6b3403f2b3f6b378b31398ac009261ae2d", func := "sash/sashlaw14.PushOne", spec := "pushOne", inPlace := ["slices.overlaps[int]"], unfollowed := true, recurses := true, loops := true, apart := false }
def PushOneSaid : Prop := pushOneRow.holds Try.pinned (OpenSpec.ofChange pushOneSpec)

/-- ITS FALSE NEIGHBOUR: 'it returns false'. Refute it at one input. -/
def pushOneWrong : ChangeSpec := { name := "pushOne", fn := fun _ => fun
  | [d1, d2, d3, d4] => { results := [.lit (.bool false)], args := [d1, d2, d3, d4] }
  | _ => none }
def PushOneWrongFalsely : Prop := pushOneRow.holds Try.pinned (OpenSpec.ofChange pushOneWrong)

/-- 'sashlaw14.PushFrames': WHATEVER THE INPUT: true; the input reads as it did. -/
def pushFramesSpec : ChangeSpec := { name := "pushFrames", fn := fun _ => fun
  | [d1, d2, d3] => { results := [.lit (.bool true)], args := [d1, d2, d3] }
  | _ => none }
def pushFramesRow : OpenClaim := { program := "ytfdmfgaiblfbhaa", sum := "88f34f5fd86e16796a7636b630533d6b3403f2b3f6b378b31398ac009261ae2d", func := "sash/sashlaw14.PushFrames", spec := "pushFrames", inPlace := ["slices.overlaps[int]"], unfollowed := true, recurses := true, loops := true, apart := false }
def PushFramesSaid : Prop := pushFramesRow.holds Try.pinned (OpenSpec.ofChange pushFramesSpec)

/-- ITS FALSE NEIGHBOUR: 'it returns false'. Refute it at one input. -/
def pushFramesWrong : ChangeSpec := { name := "pushFrames", fn := fun _ => fun
  | [d1, d2, d3] => { results := [.lit (.bool false)], args := [d1, d2, d3] }
  | _ => none }
def PushFramesWrongFalsely : Prop := pushFramesRow.holds Try.pinned (OpenSpec.ofChange pushFramesWrong)

/-- 'sashlaw14.PushCan': WHATEVER THE INPUT: true; the input reads as it did. -/
def pushCanSpec : ChangeSpec := { name := "pushCan", fn := fun _ => fun
  | [d1, d2, d3] => { results := [.lit (.bool true)], args := [d1, d2, d3] }
  | _ => none }
def pushCanRow : OpenClaim := { program := "ytfdmfgaiblfbhaa", sum := "88f34f5fd86e16796a7636b630533d6b3403f2b3f6b378b31398ac009261ae2d", func := "sash/sashlaw14.PushCan", spec := "pushCan", inPlace := ["slices.overlaps[int]"], unfollowed := true, recurses := true, loops := true, apart := false }
def PushCanSaid : Prop := pushCanRow.holds Try.pinned (OpenSpec.ofChange pushCanSpec)

/-- ITS FALSE NEIGHBOUR: 'it returns false'. Refute it at one input. -/
def pushCanWrong : ChangeSpec := { name := "pushCan", fn := fun _ => fun
  | [d1, d2, d3] => { results := [.lit (.bool false)], args := [d1, d2, d3] }
  | _ => none }
def PushCanWrongFalsely : Prop := pushCanRow.holds Try.pinned (OpenSpec.ofChange pushCanWrong)

/-- 'sashlaw12.SplitIs': WHATEVER THE INPUT: true; the input reads as it did. -/
def splitIsSpec : ChangeSpec := { name := "splitIs", fn := fun _ => fun
  | [d1, d2, d3, d4, d5, d6] => { results := [.lit (.bool true)], args := [d1, d2, d3, d4, d5, d6] }
  | _ => none }
def splitIsRow : OpenClaim := { program := "ytfdmfgaiblfbhaa", sum := "88f34f5fd86e16796a7636b630533d6b3403f2b3f6b378b31398ac009261ae2d", func := "sash/sashlaw12.SplitIs", spec := "splitIs", inPlace := ["slices.overlaps[int]", "slices.overlaps[sash/api.Cell]"], unfollowed := true, recurses := true, loops := true, apart := false }
def SplitIsSaid : Prop := splitIsRow.holds Try.pinned (OpenSpec.ofChange splitIsSpec)

/-- ITS FALSE NEIGHBOUR: 'it returns false'. Refute it at one input. -/
def splitIsWrong : ChangeSpec := { name := "splitIs", fn := fun _ => fun
  | [d1, d2, d3, d4, d5, d6] => { results := [.lit (.bool false)], args := [d1, d2, d3, d4, d5, d6] }
  | _ => none }
def SplitIsWrongFalsely : Prop := splitIsRow.holds Try.pinned (OpenSpec.ofChange splitIsWrong)

/-- 'sashlaw12.SplitCan': WHATEVER THE INPUT: true; the input reads as it did. -/
def splitCanSpec : ChangeSpec := { name := "splitCan", fn := fun _ => fun
  | [d1, d2, d3] => { results := [.lit (.bool true)], args := [d1, d2, d3] }
  | _ => none }
def splitCanRow : OpenClaim := { program := "ytfdmfgaiblfbhaa", sum := "88f34f5fd86e16796a7636b630533d6b3403f2b3f6b378b31398ac009261ae2d", func := "sash/sashlaw12.SplitCan", spec := "splitCan", inPlace := ["slices.overlaps[int]", "slices.overlaps[sash/api.Cell]"], unfollowed := true, recurses := true, loops := true, apart := false }
def SplitCanSaid : Prop := splitCanRow.holds Try.pinned (OpenSpec.ofChange splitCanSpec)

/-- ITS FALSE NEIGHBOUR: 'it returns false'. Refute it at one input. -/
def splitCanWrong : ChangeSpec := { name := "splitCan", fn := fun _ => fun
  | [d1, d2, d3] => { results := [.lit (.bool false)], args := [d1, d2, d3] }
  | _ => none }
def SplitCanWrongFalsely : Prop := splitCanRow.holds Try.pinned (OpenSpec.ofChange splitCanWrong)

/- THE SECOND FORM. 'bulk': how many values and letters a reading holds, each counted each time it is reached (what is shared counts as often as it is met; a slice's spare places count too). A statement '..UptoSaid' is the law's where the arguments, and the package variables that the reading takes, are together of bulk at most 1048576: NARROWER than '..Said'. Prove '..Said' where nothing that the law and all that it calls make is longer than what came in: it says more and counts as full. Else prove '..UptoSaid'. A law counts once. -/
mutual
def uptoBulk {H : Type} : DataW H → Nat
  | .lit (.string bytes) => bytes.length + 1
  | .lit _ => 1
  | .nil => 1
  | .ptr d => uptoBulk d + 1
  | .slice elems spare => uptoBulkAll elems + uptoBulkAll spare + 1
  | .agg parts => uptoBulkAll parts + 1
  | .iface _ d => uptoBulk d + 1
  | .map entries => uptoBulkEntries entries + 1
  | .held _ => 1
def uptoBulkAll {H : Type} : List (DataW H) → Nat
  | [] => 0
  | d :: r => uptoBulk d + uptoBulkAll r
def uptoBulkEntries {H : Type} : List (Lit × DataW H) → Nat
  | [] => 0
  | x :: r => uptoBulkEntry x + uptoBulkEntries r
def uptoBulkEntry {H : Type} : Lit × DataW H → Nat
  | (.string bytes, d) => bytes.length + uptoBulk d + 1
  | (_, d) => uptoBulk d + 1
 end
def uptoSmall : (H : Type) → List (DataW H) → Bool := fun _ ds => decide (uptoBulkAll ds ≤ 1048576)
def OpenSpec.upto (s : _root_.Go.ChangeSpec) : _root_.Go.OpenSpec := { _root_.Go.OpenSpec.ofChange s with cond := some uptoSmall }

/-- 'sashlaw07.FlatNexts', WHERE WHAT IT READS IS OF BULK AT MOST 1048576: true; the input reads as it did. -/
def flatNextsUptoRow : OpenClaim := { program := "ytfdmfgaiblfbhaa", sum := "88f34f5fd86e16796a7636b630533d6b3403f2b3f6b378b31398ac009261ae2d", func := "sash/sashlaw07.FlatNexts", spec := "flatNexts", unfollowed := true, recurses := true, loops := true, apart := false, narrowed := true }
def FlatNextsUptoSaid : Prop := flatNextsUptoRow.holds Try.pinned (OpenSpec.upto flatNextsSpec)

/-- 'sashlaw07.FlatLists', WHERE WHAT IT READS IS OF BULK AT MOST 1048576: true; the input reads as it did. -/
def flatListsUptoRow : OpenClaim := { program := "ytfdmfgaiblfbhaa", sum := "88f34f5fd86e16796a7636b630533d6b3403f2b3f6b378b31398ac009261ae2d", func := "sash/sashlaw07.FlatLists", spec := "flatLists", unfollowed := true, recurses := true, loops := true, apart := false, narrowed := true }
def FlatListsUptoSaid : Prop := flatListsUptoRow.holds Try.pinned (OpenSpec.upto flatListsSpec)

/-- 'sashlaw04.RectCuts', WHERE WHAT IT READS IS OF BULK AT MOST 1048576: true; the input reads as it did. -/
def rectCutsUptoRow : OpenClaim := { program := "ytfdmfgaiblfbhaa", sum := "88f34f5fd86e16796a7636b630533d6b3403f2b3f6b378b31398ac009261ae2d", func := "sash/sashlaw04.RectCuts", spec := "rectCuts", apart := false, narrowed := true }
def RectCutsUptoSaid : Prop := rectCutsUptoRow.holds Try.pinned (OpenSpec.upto rectCutsSpec)

/-- 'sashlaw09.AdjustShares', WHERE WHAT IT READS IS OF BULK AT MOST 1048576: true; the input reads as it did. -/
def adjustSharesUptoRow : OpenClaim := { program := "ytfdmfgaiblfbhaa", sum := "88f34f5fd86e16796a7636b630533d6b3403f2b3f6b378b31398ac009261ae2d", func := "sash/sashlaw09.AdjustShares", spec := "adjustShares", apart := false, narrowed := true }
def AdjustSharesUptoSaid : Prop := adjustSharesUptoRow.holds Try.pinned (OpenSpec.upto adjustSharesSpec)

/-- 'sashlaw09.AdjustEvens', WHERE WHAT IT READS IS OF BULK AT MOST 1048576: true; the input reads as it did. -/
def adjustEvensUptoRow : OpenClaim := { program := "ytfdmfgaiblfbhaa", sum := "88f34f5fd86e16796a7636b630533d6b3403f2b3f6b378b31398ac009261ae2d", func := "sash/sashlaw09.AdjustEvens", spec := "adjustEvens", apart := false, narrowed := true }
def AdjustEvensUptoSaid : Prop := adjustEvensUptoRow.holds Try.pinned (OpenSpec.upto adjustEvensSpec)

/-- 'sashlaw16.SpreadSizes', WHERE WHAT IT READS IS OF BULK AT MOST 1048576: true; the input reads as it did. -/
def spreadSizesUptoRow : OpenClaim := { program := "ytfdmfgaiblfbhaa", sum := "88f34f5fd86e16796a7636b630533d6b3403f2b3f6b378b31398ac009261ae2d", func := "sash/sashlaw16.SpreadSizes", spec := "spreadSizes", apart := false, narrowed := true }
def SpreadSizesUptoSaid : Prop := spreadSizesUptoRow.holds Try.pinned (OpenSpec.upto spreadSizesSpec)

/-- 'sashlaw07.FlatChanges', WHERE WHAT IT READS IS OF BULK AT MOST 1048576: true; the input reads as it did. -/
def flatChangesUptoRow : OpenClaim := { program := "ytfdmfgaiblfbhaa", sum := "88f34f5fd86e16796a7636b630533d6b3403f2b3f6b378b31398ac009261ae2d", func := "sash/sashlaw07.FlatChanges", spec := "flatChanges", unfollowed := true, recurses := true, apart := false, narrowed := true }
def FlatChangesUptoSaid : Prop := flatChangesUptoRow.holds Try.pinned (OpenSpec.upto flatChangesSpec)

/-- 'sashlaw04.RectInside', WHERE WHAT IT READS IS OF BULK AT MOST 1048576: true; the input reads as it did. -/
def rectInsideUptoRow : OpenClaim := { program := "ytfdmfgaiblfbhaa", sum := "88f34f5fd86e16796a7636b630533d6b3403f2b3f6b378b31398ac009261ae2d", func := "sash/sashlaw04.RectInside", spec := "rectInside", unfollowed := true, recurses := true, apart := false, narrowed := true }
def RectInsideUptoSaid : Prop := rectInsideUptoRow.holds Try.pinned (OpenSpec.upto rectInsideSpec)

/-- 'sashlaw07.FlatNames', WHERE WHAT IT READS IS OF BULK AT MOST 1048576: true; the input reads as it did. -/
def flatNamesUptoRow : OpenClaim := { program := "ytfdmfgaiblfbhaa", sum := "88f34f5fd86e16796a7636b630533d6b3403f2b3f6b378b31398ac009261ae2d", func := "sash/sashlaw07.FlatNames", spec := "flatNames", unfollowed := true, recurses := true, loops := true, apart := false, narrowed := true }
def FlatNamesUptoSaid : Prop := flatNamesUptoRow.holds Try.pinned (OpenSpec.upto flatNamesSpec)

/-- 'sashlaw09.AdjustSets', WHERE WHAT IT READS IS OF BULK AT MOST 1048576: true; the input reads as it did. -/
def adjustSetsUptoRow : OpenClaim := { program := "ytfdmfgaiblfbhaa", sum := "88f34f5fd86e16796a7636b630533d6b3403f2b3f6b378b31398ac009261ae2d", func := "sash/sashlaw09.AdjustSets", spec := "adjustSets", recurses := true, loops := true, apart := false, narrowed := true }
def AdjustSetsUptoSaid : Prop := adjustSetsUptoRow.holds Try.pinned (OpenSpec.upto adjustSetsSpec)

/-- 'sashlaw04.RectMeets', WHERE WHAT IT READS IS OF BULK AT MOST 1048576: true; the input reads as it did. -/
def rectMeetsUptoRow : OpenClaim := { program := "ytfdmfgaiblfbhaa", sum := "88f34f5fd86e16796a7636b630533d6b3403f2b3f6b378b31398ac009261ae2d", func := "sash/sashlaw04.RectMeets", spec := "rectMeets", unfollowed := true, recurses := true, apart := false, narrowed := true }
def RectMeetsUptoSaid : Prop := rectMeetsUptoRow.holds Try.pinned (OpenSpec.upto rectMeetsSpec)

/-- 'sashlaw04.RectMays', WHERE WHAT IT READS IS OF BULK AT MOST 1048576: true; the input reads as it did. -/
def rectMaysUptoRow : OpenClaim := { program := "ytfdmfgaiblfbhaa", sum := "88f34f5fd86e16796a7636b630533d6b3403f2b3f6b378b31398ac009261ae2d", func := "sash/sashlaw04.RectMays", spec := "rectMays", unfollowed := true, recurses := true, apart := false, narrowed := true }
def RectMaysUptoSaid : Prop := rectMaysUptoRow.holds Try.pinned (OpenSpec.upto rectMaysSpec)

/-- 'sashlaw07.FlatStill', WHERE WHAT IT READS IS OF BULK AT MOST 1048576: true; the input reads as it did. -/
def flatStillUptoRow : OpenClaim := { program := "ytfdmfgaiblfbhaa", sum := "88f34f5fd86e16796a7636b630533d6b3403f2b3f6b378b31398ac009261ae2d", func := "sash/sashlaw07.FlatStill", spec := "flatStill", unfollowed := true, recurses := true, loops := true, apart := false, narrowed := true }
def FlatStillUptoSaid : Prop := flatStillUptoRow.holds Try.pinned (OpenSpec.upto flatStillSpec)

/-- 'sashlaw05.CellMays', WHERE WHAT IT READS IS OF BULK AT MOST 1048576: true; the input reads as it did. -/
def cellMaysUptoRow : OpenClaim := { program := "ytfdmfgaiblfbhaa", sum := "88f34f5fd86e16796a7636b630533d6b3403f2b3f6b378b31398ac009261ae2d", func := "sash/sashlaw05.CellMays", spec := "cellMays", inPlace := ["slices.overlaps[int]"], unfollowed := true, recurses := true, loops := true, apart := false, narrowed := true }
def CellMaysUptoSaid : Prop := cellMaysUptoRow.holds Try.pinned (OpenSpec.upto cellMaysSpec)

/-- 'sashlaw05.CellSame', WHERE WHAT IT READS IS OF BULK AT MOST 1048576: true; the input reads as it did. -/
def cellSameUptoRow : OpenClaim := { program := "ytfdmfgaiblfbhaa", sum := "88f34f5fd86e16796a7636b630533d6b3403f2b3f6b378b31398ac009261ae2d", func := "sash/sashlaw05.CellSame", spec := "cellSame", inPlace := ["slices.overlaps[int]"], unfollowed := true, recurses := true, loops := true, apart := false, narrowed := true }
def CellSameUptoSaid : Prop := cellSameUptoRow.holds Try.pinned (OpenSpec.upto cellSameSpec)

/-- 'sashlaw05.CellCounts', WHERE WHAT IT READS IS OF BULK AT MOST 1048576: true; the input reads as it did. -/
def cellCountsUptoRow : OpenClaim := { program := "ytfdmfgaiblfbhaa", sum := "88f34f5fd86e16796a7636b630533d6b3403f2b3f6b378b31398ac009261ae2d", func := "sash/sashlaw05.CellCounts", spec := "cellCounts", inPlace := ["slices.overlaps[int]"], unfollowed := true, recurses := true, loops := true, apart := false, narrowed := true }
def CellCountsUptoSaid : Prop := cellCountsUptoRow.holds Try.pinned (OpenSpec.upto cellCountsSpec)

/-- 'sashlaw08.LeastSums', WHERE WHAT IT READS IS OF BULK AT MOST 1048576: true; the input reads as it did. -/
def leastSumsUptoRow : OpenClaim := { program := "ytfdmfgaiblfbhaa", sum := "88f34f5fd86e16796a7636b630533d6b3403f2b3f6b378b31398ac009261ae2d", func := "sash/sashlaw08.LeastSums", spec := "leastSums", unfollowed := true, recurses := true, loops := true, apart := false, narrowed := true }
def LeastSumsUptoSaid : Prop := leastSumsUptoRow.holds Try.pinned (OpenSpec.upto leastSumsSpec)

/-- 'sashlaw05.CellFinds', WHERE WHAT IT READS IS OF BULK AT MOST 1048576: true; the input reads as it did. -/
def cellFindsUptoRow : OpenClaim := { program := "ytfdmfgaiblfbhaa", sum := "88f34f5fd86e16796a7636b630533d6b3403f2b3f6b378b31398ac009261ae2d", func := "sash/sashlaw05.CellFinds", spec := "cellFinds", inPlace := ["slices.overlaps[int]"], unfollowed := true, recurses := true, loops := true, apart := false, narrowed := true }
def CellFindsUptoSaid : Prop := cellFindsUptoRow.holds Try.pinned (OpenSpec.upto cellFindsSpec)

/-- 'sashlaw08.LeastIs', WHERE WHAT IT READS IS OF BULK AT MOST 1048576: true; the input reads as it did. -/
def leastIsUptoRow : OpenClaim := { program := "ytfdmfgaiblfbhaa", sum := "88f34f5fd86e16796a7636b630533d6b3403f2b3f6b378b31398ac009261ae2d", func := "sash/sashlaw08.LeastIs", spec := "leastIs", unfollowed := true, recurses := true, loops := true, apart := false, narrowed := true }
def LeastIsUptoSaid : Prop := leastIsUptoRow.holds Try.pinned (OpenSpec.upto leastIsSpec)

/-- 'sashlaw08.LeastFits', WHERE WHAT IT READS IS OF BULK AT MOST 1048576: true; the input reads as it did. -/
def leastFitsUptoRow : OpenClaim := { program := "ytfdmfgaiblfbhaa", sum := "88f34f5fd86e16796a7636b630533d6b3403f2b3f6b378b31398ac009261ae2d", func := "sash/sashlaw08.LeastFits", spec := "leastFits", unfollowed := true, recurses := true, loops := true, apart := false, narrowed := true }
def LeastFitsUptoSaid : Prop := leastFitsUptoRow.holds Try.pinned (OpenSpec.upto leastFitsSpec)

/-- 'sashlaw08.LeastPaths', WHERE WHAT IT READS IS OF BULK AT MOST 1048576: true; the input reads as it did. -/
def leastPathsUptoRow : OpenClaim := { program := "ytfdmfgaiblfbhaa", sum := "88f34f5fd86e16796a7636b630533d6b3403f2b3f6b378b31398ac009261ae2d", func := "sash/sashlaw08.LeastPaths", spec := "leastPaths", unfollowed := true, recurses := true, loops := true, apart := false, narrowed := true }
def LeastPathsUptoSaid : Prop := leastPathsUptoRow.holds Try.pinned (OpenSpec.upto leastPathsSpec)

/-- 'sashlaw05.CellPuts', WHERE WHAT IT READS IS OF BULK AT MOST 1048576: true; the input reads as it did. -/
def cellPutsUptoRow : OpenClaim := { program := "ytfdmfgaiblfbhaa", sum := "88f34f5fd86e16796a7636b630533d6b3403f2b3f6b378b31398ac009261ae2d", func := "sash/sashlaw05.CellPuts", spec := "cellPuts", inPlace := ["slices.overlaps[int]"], unfollowed := true, recurses := true, loops := true, apart := false, narrowed := true }
def CellPutsUptoSaid : Prop := cellPutsUptoRow.holds Try.pinned (OpenSpec.upto cellPutsSpec)

/-- 'sashlaw12.SplitSizes', WHERE WHAT IT READS IS OF BULK AT MOST 1048576: true; the input reads as it did. -/
def splitSizesUptoRow : OpenClaim := { program := "ytfdmfgaiblfbhaa", sum := "88f34f5fd86e16796a7636b630533d6b3403f2b3f6b378b31398ac009261ae2d", func := "sash/sashlaw12.SplitSizes", spec := "splitSizes", inPlace := ["slices.overlaps[int]"], unfollowed := true, recurses := true, apart := false, narrowed := true }
def SplitSizesUptoSaid : Prop := splitSizesUptoRow.holds Try.pinned (OpenSpec.upto splitSizesSpec)

/-- 'sashlaw16.SpreadAll', WHERE WHAT IT READS IS OF BULK AT MOST 1048576: true; the input reads as it did. -/
def spreadAllUptoRow : OpenClaim := { program := "ytfdmfgaiblfbhaa", sum := "88f34f5fd86e16796a7636b630533d6b3403f2b3f6b378b31398ac009261ae2d", func := "sash/sashlaw16.SpreadAll", spec := "spreadAll", unfollowed := true, recurses := true, loops := true, apart := false, narrowed := true }
def SpreadAllUptoSaid : Prop := spreadAllUptoRow.holds Try.pinned (OpenSpec.upto spreadAllSpec)

/-- 'sashlaw16.SpreadAt', WHERE WHAT IT READS IS OF BULK AT MOST 1048576: true; the input reads as it did. -/
def spreadAtUptoRow : OpenClaim := { program := "ytfdmfgaiblfbhaa", sum := "88f34f5fd86e16796a7636b630533d6b3403f2b3f6b378b31398ac009261ae2d", func := "sash/sashlaw16.SpreadAt", spec := "spreadAt", inPlace := ["slices.overlaps[int]"], unfollowed := true, recurses := true, loops := true, apart := false, narrowed := true }
def SpreadAtUptoSaid : Prop := spreadAtUptoRow.holds Try.pinned (OpenSpec.upto spreadAtSpec)

/-- 'sashlaw14.PushIs', WHERE WHAT IT READS IS OF BULK AT MOST 1048576: true; the input reads as it did. -/
def pushIsUptoRow : OpenClaim := { program := "ytfdmfgaiblfbhaa", sum := "88f34f5fd86e16796a7636b630533d6b3403f2b3f6b378b31398ac009261ae2d", func := "sash/sashlaw14.PushIs", spec := "pushIs", inPlace := ["slices.overlaps[int]"], unfollowed := true, recurses := true, loops := true, apart := false, narrowed := true }
def PushIsUptoSaid : Prop := pushIsUptoRow.holds Try.pinned (OpenSpec.upto pushIsSpec)

/-- 'sashlaw14.PushOne', WHERE WHAT IT READS IS OF BULK AT MOST 1048576: true; the input reads as it did. -/
def pushOneUptoRow : OpenClaim := { program := "ytfdmfgaiblfbhaa", sum := "88f34f5fd86e16796a7636b630533d6b3403f2b3f6b378b31398ac009261ae2d", func := "sash/sashlaw14.PushOne", spec := "pushOne", inPlace := ["slices.overlaps[int]"], unfollowed := true, recurses := true, loops := true, apart := false, narrowed := true }
def PushOneUptoSaid : Prop := pushOneUptoRow.holds Try.pinned (OpenSpec.upto pushOneSpec)

/-- 'sashlaw14.PushFrames', WHERE WHAT IT READS IS OF BULK AT MOST 1048576: true; the input reads as it did. -/
def pushFramesUptoRow : OpenClaim := { program := "ytfdmfgaiblfbhaa", sum := "88f34f5fd86e16796a7636b630533d6b3403f2b3f6b378b31398ac009261ae2d", func := "sash/sashlaw14.PushFrames", spec := "pushFrames", inPlace := ["slices.overlaps[int]"], unfollowed := true, recurses := true, loops := true, apart := false, narrowed := true }
def PushFramesUptoSaid : Prop := pushFramesUptoRow.holds Try.pinned (OpenSpec.upto pushFramesSpec)

/-- 'sashlaw14.PushCan', WHERE WHAT IT READS IS OF BULK AT MOST 1048576: true; the input reads as it did. -/
def pushCanUptoRow : OpenClaim := { program := "ytfdmfgaiblfbhaa", sum := "88f34f5fd86e16796a7636b630533d6b3403f2b3f6b378b31398ac009261ae2d", func := "sash/sashlaw14.PushCan", spec := "pushCan", inPlace := ["slices.overlaps[int]"], unfollowed := true, recurses := true, loops := true, apart := false, narrowed := true }
def PushCanUptoSaid : Prop := pushCanUptoRow.holds Try.pinned (OpenSpec.upto pushCanSpec)

/-- 'sashlaw12.SplitIs', WHERE WHAT IT READS IS OF BULK AT MOST 1048576: true; the input reads as it did. -/
def splitIsUptoRow : OpenClaim := { program := "ytfdmfgaiblfbhaa", sum := "88f34f5fd86e16796a7636b630533d6b3403f2b3f6b378b31398ac009261ae2d", func := "sash/sashlaw12.SplitIs", spec := "splitIs", inPlace := ["slices.overlaps[int]", "slices.overlaps[sash/api.Cell]"], unfollowed := true, recurses := true, loops := true, apart := false, narrowed := true }
def SplitIsUptoSaid : Prop := splitIsUptoRow.holds Try.pinned (OpenSpec.upto splitIsSpec)

/-- 'sashlaw12.SplitCan', WHERE WHAT IT READS IS OF BULK AT MOST 1048576: true; the input reads as it did. -/
def splitCanUptoRow : OpenClaim := { program := "ytfdmfgaiblfbhaa", sum := "88f34f5fd86e16796a7636b630533d6b3403f2b3f6b378b31398ac009261ae2d", func := "sash/sashlaw12.SplitCan", spec := "splitCan", inPlace := ["slices.overlaps[int]", "slices.overlaps[sash/api.Cell]"], unfollowed := true, recurses := true, loops := true, apart := false, narrowed := true }
def SplitCanUptoSaid : Prop := splitCanUptoRow.holds Try.pinned (OpenSpec.upto splitCanSpec)

end Rows
end Go.Proofs.Ytfdmfgaiblfbhaa
