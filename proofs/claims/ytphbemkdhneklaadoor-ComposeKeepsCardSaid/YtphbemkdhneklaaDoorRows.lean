/-
  NARROWER THAN 'FOR EVERY INPUT', by the rows' own cells (each row's printed sentence says how): NormalIs: laid · PlaceAll: laid · PlaceLeast: laid · PlaceGaps: laid · PlaceNormal: laid · ComposeAll: laid · ComposeThree: laid · ComposeKeeps: laid · ComposeEnds: laid · ComposeDoes: laid · ComposeThrough: laid · ComposeGaps: laid.
  DERIVED. THE GIVEN ROWS OF THIS SEAT. 12 by the template 'for every input the law returns true; each argument reads behind the call as it read before'; 0 by the template 'total and deterministic' (their statements: YtphbemkdhneklaaDoorTotals.lean).
  GIVEN WITH THE SEED: the statements are not yours to turn. If you find one false, say at which input.
  Laid BY PROGRAM, IN A SANDBOX (cutbox-rows.mjs): the forced cells as the released guide's own fill.sh prints them over the translation 23a9c7cc03a996c1… (all of the seat's roots in one cut). By AI agents, Wed Nov 11 2026. No macro, syntax, notation, axiom, sorry.
-/
import Derived.Test.YtphbemkdhneklaaDoorChecked
import GoSem.PinnedTables
import GoSem.Claim
import GoSem.ClaimJoined
import GoSem.ClaimMapViews
import Derived.JoinedTies
import Derived.KernelRfl
namespace Go.Proofs.YtphbemkdhneklaaDoor
/- THE CELL 'sum', in the pinned program and in every row, IS THE sha256 OF THE DUMP (.gsa) THAT YtphbemkdhneklaaDoorProg.lean LOADS. Nothing in Lean hashes anything: it is a label: what it is worth is what the hold of that sum in a sandbox is worth. -/
noncomputable def Tryd.pinned : Pinned := { name := "ytphbemkdhneklaadoor", sum := "23a9c7cc03a996c1e207b1ca7e811a877498a4aff46b385fd2db7c3d84a9346a", checked := Tryd.checked }
namespace Rows
def none {H : Type} : Left H := { results := [], args := [] }

/- WHAT THE LISTED PACKAGE-LEVEL VARIABLES READ AS WHEN THE CALL BEGINS. Each datum BY PROGRAM (the guide's laid-datum.mjs) off the statement by which the dump's own 'gosem.cut.vars' lays the variable. In a bare row this is a premise. The card (YtphbemkdhneklaaDoorCards.lean) ties it to the program's text. -/
def laid_unicode_utf8_acceptRanges {H : Type} : DataW H := .agg [.agg [.lit (.int .u8 128), .lit (.int .u8 191)], .agg [.lit (.int .u8 160), .lit (.int .u8 191)], .agg [.lit (.int .u8 128), .lit (.int .u8 159)], .agg [.lit (.int .u8 144), .lit (.int .u8 191)], .agg [.lit (.int .u8 128), .lit (.int .u8 143)], .agg [.lit (.int .u8 0), .lit (.int .u8 0)], .agg [.lit (.int .u8 0), .lit (.int .u8 0)], .agg [.lit (.int .u8 0), .lit (.int .u8 0)], .agg [.lit (.int .u8 0), .lit (.int .u8 0)], .agg [.lit (.int .u8 0), .lit (.int .u8 0)], .agg [.lit (.int .u8 0), .lit (.int .u8 0)], .agg [.lit (.int .u8 0), .lit (.int .u8 0)], .agg [.lit (.int .u8 0), .lit (.int .u8 0)], .agg [.lit (.int .u8 0), .lit (.int .u8 0)], .agg [.lit (.int .u8 0), .lit (.int .u8 0)], .agg [.lit (.int .u8 0), .lit (.int .u8 0)]]
def laid_epitome_span_kinds {H : Type} : DataW H := .agg [.agg [.lit (.bool false), .lit (.bool false)], .agg [.lit (.bool true), .lit (.bool true)], .agg [.lit (.bool false), .lit (.bool false)], .agg [.lit (.bool true), .lit (.bool false)]]
/-- One of Go's own tables, pinned by name: the form's constant. -/
def laid_unicode_utf8_first : DataW Unit := Go.Pinned.utf8First

/-- 'epitomelaw05.NormalIs': WHATEVER THE INPUT: true; the input reads as it did. -/
def normalIsSpec : ChangeSpec := { name := "normalIs", fn := fun _ => fun
  | [d1, d2] => { results := [.lit (.bool true)], args := [d1, d2] }
  | _ => none }
def normalIsRow : OpenClaim := { program := "ytphbemkdhneklaadoor", sum := "23a9c7cc03a996c1e207b1ca7e811a877498a4aff46b385fd2db7c3d84a9346a", func := "epitome/epitomelaw05.NormalIs", spec := "normalIs", unfollowed := true, recurses := true, named := ["epitome/span.kinds", "unicode/utf8.first", "unicode/utf8.acceptRanges"], apart := false, laid := [("unicode/utf8.acceptRanges", laid_unicode_utf8_acceptRanges), ("epitome/span.kinds", laid_epitome_span_kinds), ("unicode/utf8.first", laid_unicode_utf8_first)] }
def NormalIsSaid : Prop := normalIsRow.holds Tryd.pinned (OpenSpec.ofChange normalIsSpec)

/-- ITS FALSE NEIGHBOUR: 'it returns false'. Refute it at one input. -/
def normalIsWrong : ChangeSpec := { name := "normalIs", fn := fun _ => fun
  | [d1, d2] => { results := [.lit (.bool false)], args := [d1, d2] }
  | _ => none }
def NormalIsWrongFalsely : Prop := normalIsRow.holds Tryd.pinned (OpenSpec.ofChange normalIsWrong)

/-- 'epitomelaw08.PlaceAll': WHATEVER THE INPUT: true; the input reads as it did. -/
def placeAllSpec : ChangeSpec := { name := "placeAll", fn := fun _ => fun
  | [d1, d2, d3] => { results := [.lit (.bool true)], args := [d1, d2, d3] }
  | _ => none }
def placeAllRow : OpenClaim := { program := "ytphbemkdhneklaadoor", sum := "23a9c7cc03a996c1e207b1ca7e811a877498a4aff46b385fd2db7c3d84a9346a", func := "epitome/epitomelaw08.PlaceAll", spec := "placeAll", unfollowed := true, recurses := true, named := ["epitome/span.kinds", "unicode/utf8.first", "unicode/utf8.acceptRanges"], apart := false, laid := [("unicode/utf8.acceptRanges", laid_unicode_utf8_acceptRanges), ("epitome/span.kinds", laid_epitome_span_kinds), ("unicode/utf8.first", laid_unicode_utf8_first)] }
def PlaceAllSaid : Prop := placeAllRow.holds Tryd.pinned (OpenSpec.ofChange placeAllSpec)

/-- ITS FALSE NEIGHBOUR: 'it returns false'. Refute it at one input. -/
def placeAllWrong : ChangeSpec := { name := "placeAll", fn := fun _ => fun
  | [d1, d2, d3] => { results := [.lit (.bool false)], args := [d1, d2, d3] }
  | _ => none }
def PlaceAllWrongFalsely : Prop := placeAllRow.holds Tryd.pinned (OpenSpec.ofChange placeAllWrong)

/-- 'epitomelaw08.PlaceLeast': WHATEVER THE INPUT: true; the input reads as it did. -/
def placeLeastSpec : ChangeSpec := { name := "placeLeast", fn := fun _ => fun
  | [d1, d2] => { results := [.lit (.bool true)], args := [d1, d2] }
  | _ => none }
def placeLeastRow : OpenClaim := { program := "ytphbemkdhneklaadoor", sum := "23a9c7cc03a996c1e207b1ca7e811a877498a4aff46b385fd2db7c3d84a9346a", func := "epitome/epitomelaw08.PlaceLeast", spec := "placeLeast", unfollowed := true, recurses := true, named := ["epitome/span.kinds", "unicode/utf8.first", "unicode/utf8.acceptRanges"], apart := false, laid := [("unicode/utf8.acceptRanges", laid_unicode_utf8_acceptRanges), ("epitome/span.kinds", laid_epitome_span_kinds), ("unicode/utf8.first", laid_unicode_utf8_first)] }
def PlaceLeastSaid : Prop := placeLeastRow.holds Tryd.pinned (OpenSpec.ofChange placeLeastSpec)

/-- ITS FALSE NEIGHBOUR: 'it returns false'. Refute it at one input. -/
def placeLeastWrong : ChangeSpec := { name := "placeLeast", fn := fun _ => fun
  | [d1, d2] => { results := [.lit (.bool false)], args := [d1, d2] }
  | _ => none }
def PlaceLeastWrongFalsely : Prop := placeLeastRow.holds Tryd.pinned (OpenSpec.ofChange placeLeastWrong)

/-- 'epitomelaw08.PlaceGaps': WHATEVER THE INPUT: true; the input reads as it did. -/
def placeGapsSpec : ChangeSpec := { name := "placeGaps", fn := fun _ => fun
  | [d1, d2] => { results := [.lit (.bool true)], args := [d1, d2] }
  | _ => none }
def placeGapsRow : OpenClaim := { program := "ytphbemkdhneklaadoor", sum := "23a9c7cc03a996c1e207b1ca7e811a877498a4aff46b385fd2db7c3d84a9346a", func := "epitome/epitomelaw08.PlaceGaps", spec := "placeGaps", unfollowed := true, recurses := true, named := ["epitome/span.kinds", "unicode/utf8.first", "unicode/utf8.acceptRanges"], apart := false, laid := [("unicode/utf8.acceptRanges", laid_unicode_utf8_acceptRanges), ("epitome/span.kinds", laid_epitome_span_kinds), ("unicode/utf8.first", laid_unicode_utf8_first)] }
def PlaceGapsSaid : Prop := placeGapsRow.holds Tryd.pinned (OpenSpec.ofChange placeGapsSpec)

/-- ITS FALSE NEIGHBOUR: 'it returns false'. Refute it at one input. -/
def placeGapsWrong : ChangeSpec := { name := "placeGaps", fn := fun _ => fun
  | [d1, d2] => { results := [.lit (.bool false)], args := [d1, d2] }
  | _ => none }
def PlaceGapsWrongFalsely : Prop := placeGapsRow.holds Tryd.pinned (OpenSpec.ofChange placeGapsWrong)

/-- 'epitomelaw08.PlaceNormal': WHATEVER THE INPUT: true; the input reads as it did. -/
def placeNormalSpec : ChangeSpec := { name := "placeNormal", fn := fun _ => fun
  | [d1, d2, d3] => { results := [.lit (.bool true)], args := [d1, d2, d3] }
  | _ => none }
def placeNormalRow : OpenClaim := { program := "ytphbemkdhneklaadoor", sum := "23a9c7cc03a996c1e207b1ca7e811a877498a4aff46b385fd2db7c3d84a9346a", func := "epitome/epitomelaw08.PlaceNormal", spec := "placeNormal", unfollowed := true, recurses := true, named := ["epitome/span.kinds", "unicode/utf8.first", "unicode/utf8.acceptRanges"], apart := false, laid := [("unicode/utf8.acceptRanges", laid_unicode_utf8_acceptRanges), ("epitome/span.kinds", laid_epitome_span_kinds), ("unicode/utf8.first", laid_unicode_utf8_first)] }
def PlaceNormalSaid : Prop := placeNormalRow.holds Tryd.pinned (OpenSpec.ofChange placeNormalSpec)

/-- ITS FALSE NEIGHBOUR: 'it returns false'. Refute it at one input. -/
def placeNormalWrong : ChangeSpec := { name := "placeNormal", fn := fun _ => fun
  | [d1, d2, d3] => { results := [.lit (.bool false)], args := [d1, d2, d3] }
  | _ => none }
def PlaceNormalWrongFalsely : Prop := placeNormalRow.holds Tryd.pinned (OpenSpec.ofChange placeNormalWrong)

/-- 'epitomelaw09.ComposeAll': WHATEVER THE INPUT: true; the input reads as it did. -/
def composeAllSpec : ChangeSpec := { name := "composeAll", fn := fun _ => fun
  | [d1, d2, d3] => { results := [.lit (.bool true)], args := [d1, d2, d3] }
  | _ => none }
def composeAllRow : OpenClaim := { program := "ytphbemkdhneklaadoor", sum := "23a9c7cc03a996c1e207b1ca7e811a877498a4aff46b385fd2db7c3d84a9346a", func := "epitome/epitomelaw09.ComposeAll", spec := "composeAll", unfollowed := true, recurses := true, named := ["epitome/span.kinds", "unicode/utf8.first", "unicode/utf8.acceptRanges"], apart := false, laid := [("unicode/utf8.acceptRanges", laid_unicode_utf8_acceptRanges), ("epitome/span.kinds", laid_epitome_span_kinds), ("unicode/utf8.first", laid_unicode_utf8_first)] }
def ComposeAllSaid : Prop := composeAllRow.holds Tryd.pinned (OpenSpec.ofChange composeAllSpec)

/-- ITS FALSE NEIGHBOUR: 'it returns false'. Refute it at one input. -/
def composeAllWrong : ChangeSpec := { name := "composeAll", fn := fun _ => fun
  | [d1, d2, d3] => { results := [.lit (.bool false)], args := [d1, d2, d3] }
  | _ => none }
def ComposeAllWrongFalsely : Prop := composeAllRow.holds Tryd.pinned (OpenSpec.ofChange composeAllWrong)

/-- 'epitomelaw09.ComposeThree': WHATEVER THE INPUT: true; the input reads as it did. -/
def composeThreeSpec : ChangeSpec := { name := "composeThree", fn := fun _ => fun
  | [d1, d2] => { results := [.lit (.bool true)], args := [d1, d2] }
  | _ => none }
def composeThreeRow : OpenClaim := { program := "ytphbemkdhneklaadoor", sum := "23a9c7cc03a996c1e207b1ca7e811a877498a4aff46b385fd2db7c3d84a9346a", func := "epitome/epitomelaw09.ComposeThree", spec := "composeThree", unfollowed := true, recurses := true, named := ["epitome/span.kinds", "unicode/utf8.first", "unicode/utf8.acceptRanges"], apart := false, laid := [("unicode/utf8.acceptRanges", laid_unicode_utf8_acceptRanges), ("epitome/span.kinds", laid_epitome_span_kinds), ("unicode/utf8.first", laid_unicode_utf8_first)] }
def ComposeThreeSaid : Prop := composeThreeRow.holds Tryd.pinned (OpenSpec.ofChange composeThreeSpec)

/-- ITS FALSE NEIGHBOUR: 'it returns false'. Refute it at one input. -/
def composeThreeWrong : ChangeSpec := { name := "composeThree", fn := fun _ => fun
  | [d1, d2] => { results := [.lit (.bool false)], args := [d1, d2] }
  | _ => none }
def ComposeThreeWrongFalsely : Prop := composeThreeRow.holds Tryd.pinned (OpenSpec.ofChange composeThreeWrong)

/-- 'epitomelaw09.ComposeKeeps': WHATEVER THE INPUT: true; the input reads as it did. -/
def composeKeepsSpec : ChangeSpec := { name := "composeKeeps", fn := fun _ => fun
  | [d1, d2, d3] => { results := [.lit (.bool true)], args := [d1, d2, d3] }
  | _ => none }
def composeKeepsRow : OpenClaim := { program := "ytphbemkdhneklaadoor", sum := "23a9c7cc03a996c1e207b1ca7e811a877498a4aff46b385fd2db7c3d84a9346a", func := "epitome/epitomelaw09.ComposeKeeps", spec := "composeKeeps", unfollowed := true, recurses := true, named := ["epitome/span.kinds", "unicode/utf8.first", "unicode/utf8.acceptRanges"], apart := false, laid := [("unicode/utf8.acceptRanges", laid_unicode_utf8_acceptRanges), ("epitome/span.kinds", laid_epitome_span_kinds), ("unicode/utf8.first", laid_unicode_utf8_first)] }
def ComposeKeepsSaid : Prop := composeKeepsRow.holds Tryd.pinned (OpenSpec.ofChange composeKeepsSpec)

/-- ITS FALSE NEIGHBOUR: 'it returns false'. Refute it at one input. -/
def composeKeepsWrong : ChangeSpec := { name := "composeKeeps", fn := fun _ => fun
  | [d1, d2, d3] => { results := [.lit (.bool false)], args := [d1, d2, d3] }
  | _ => none }
def ComposeKeepsWrongFalsely : Prop := composeKeepsRow.holds Tryd.pinned (OpenSpec.ofChange composeKeepsWrong)

/-- 'epitomelaw09.ComposeEnds': WHATEVER THE INPUT: true; the input reads as it did. -/
def composeEndsSpec : ChangeSpec := { name := "composeEnds", fn := fun _ => fun
  | [d1, d2, d3] => { results := [.lit (.bool true)], args := [d1, d2, d3] }
  | _ => none }
def composeEndsRow : OpenClaim := { program := "ytphbemkdhneklaadoor", sum := "23a9c7cc03a996c1e207b1ca7e811a877498a4aff46b385fd2db7c3d84a9346a", func := "epitome/epitomelaw09.ComposeEnds", spec := "composeEnds", unfollowed := true, recurses := true, named := ["epitome/span.kinds", "unicode/utf8.first", "unicode/utf8.acceptRanges"], apart := false, laid := [("unicode/utf8.acceptRanges", laid_unicode_utf8_acceptRanges), ("epitome/span.kinds", laid_epitome_span_kinds), ("unicode/utf8.first", laid_unicode_utf8_first)] }
def ComposeEndsSaid : Prop := composeEndsRow.holds Tryd.pinned (OpenSpec.ofChange composeEndsSpec)

/-- ITS FALSE NEIGHBOUR: 'it returns false'. Refute it at one input. -/
def composeEndsWrong : ChangeSpec := { name := "composeEnds", fn := fun _ => fun
  | [d1, d2, d3] => { results := [.lit (.bool false)], args := [d1, d2, d3] }
  | _ => none }
def ComposeEndsWrongFalsely : Prop := composeEndsRow.holds Tryd.pinned (OpenSpec.ofChange composeEndsWrong)

/-- 'epitomelaw09.ComposeDoes': WHATEVER THE INPUT: true; the input reads as it did. -/
def composeDoesSpec : ChangeSpec := { name := "composeDoes", fn := fun _ => fun
  | [d1, d2, d3] => { results := [.lit (.bool true)], args := [d1, d2, d3] }
  | _ => none }
def composeDoesRow : OpenClaim := { program := "ytphbemkdhneklaadoor", sum := "23a9c7cc03a996c1e207b1ca7e811a877498a4aff46b385fd2db7c3d84a9346a", func := "epitome/epitomelaw09.ComposeDoes", spec := "composeDoes", unfollowed := true, recurses := true, named := ["epitome/span.kinds", "unicode/utf8.first", "unicode/utf8.acceptRanges"], apart := false, laid := [("unicode/utf8.acceptRanges", laid_unicode_utf8_acceptRanges), ("epitome/span.kinds", laid_epitome_span_kinds), ("unicode/utf8.first", laid_unicode_utf8_first)] }
def ComposeDoesSaid : Prop := composeDoesRow.holds Tryd.pinned (OpenSpec.ofChange composeDoesSpec)

/-- ITS FALSE NEIGHBOUR: 'it returns false'. Refute it at one input. -/
def composeDoesWrong : ChangeSpec := { name := "composeDoes", fn := fun _ => fun
  | [d1, d2, d3] => { results := [.lit (.bool false)], args := [d1, d2, d3] }
  | _ => none }
def ComposeDoesWrongFalsely : Prop := composeDoesRow.holds Tryd.pinned (OpenSpec.ofChange composeDoesWrong)

/-- 'epitomelaw09.ComposeThrough': WHATEVER THE INPUT: true; the input reads as it did. -/
def composeThroughSpec : ChangeSpec := { name := "composeThrough", fn := fun _ => fun
  | [d1, d2, d3] => { results := [.lit (.bool true)], args := [d1, d2, d3] }
  | _ => none }
def composeThroughRow : OpenClaim := { program := "ytphbemkdhneklaadoor", sum := "23a9c7cc03a996c1e207b1ca7e811a877498a4aff46b385fd2db7c3d84a9346a", func := "epitome/epitomelaw09.ComposeThrough", spec := "composeThrough", unfollowed := true, recurses := true, named := ["epitome/span.kinds", "unicode/utf8.first", "unicode/utf8.acceptRanges"], apart := false, laid := [("unicode/utf8.acceptRanges", laid_unicode_utf8_acceptRanges), ("epitome/span.kinds", laid_epitome_span_kinds), ("unicode/utf8.first", laid_unicode_utf8_first)] }
def ComposeThroughSaid : Prop := composeThroughRow.holds Tryd.pinned (OpenSpec.ofChange composeThroughSpec)

/-- ITS FALSE NEIGHBOUR: 'it returns false'. Refute it at one input. -/
def composeThroughWrong : ChangeSpec := { name := "composeThrough", fn := fun _ => fun
  | [d1, d2, d3] => { results := [.lit (.bool false)], args := [d1, d2, d3] }
  | _ => none }
def ComposeThroughWrongFalsely : Prop := composeThroughRow.holds Tryd.pinned (OpenSpec.ofChange composeThroughWrong)

/-- 'epitomelaw09.ComposeGaps': WHATEVER THE INPUT: true; the input reads as it did. -/
def composeGapsSpec : ChangeSpec := { name := "composeGaps", fn := fun _ => fun
  | [d1, d2, d3] => { results := [.lit (.bool true)], args := [d1, d2, d3] }
  | _ => none }
def composeGapsRow : OpenClaim := { program := "ytphbemkdhneklaadoor", sum := "23a9c7cc03a996c1e207b1ca7e811a877498a4aff46b385fd2db7c3d84a9346a", func := "epitome/epitomelaw09.ComposeGaps", spec := "composeGaps", unfollowed := true, recurses := true, named := ["epitome/span.kinds", "unicode/utf8.first", "unicode/utf8.acceptRanges"], apart := false, laid := [("unicode/utf8.acceptRanges", laid_unicode_utf8_acceptRanges), ("epitome/span.kinds", laid_epitome_span_kinds), ("unicode/utf8.first", laid_unicode_utf8_first)] }
def ComposeGapsSaid : Prop := composeGapsRow.holds Tryd.pinned (OpenSpec.ofChange composeGapsSpec)

/-- ITS FALSE NEIGHBOUR: 'it returns false'. Refute it at one input. -/
def composeGapsWrong : ChangeSpec := { name := "composeGaps", fn := fun _ => fun
  | [d1, d2, d3] => { results := [.lit (.bool false)], args := [d1, d2, d3] }
  | _ => none }
def ComposeGapsWrongFalsely : Prop := composeGapsRow.holds Tryd.pinned (OpenSpec.ofChange composeGapsWrong)

/- THE SECOND FORM. 'bulk': how many values and letters a reading holds, each counted each time it is reached (what is shared counts as often as it is met; a slice's spare places count too). A statement '..UptoSaid' is the law's where the arguments, and the package variables that the reading takes, are together of bulk at most 1048576: NARROWER than '..Said'. Prove '..Said' where nothing that the law and all that it calls make is longer than what came in: it says more and counts as full. Else prove '..UptoSaid'. A law counts once. -/
mutual
def uptoBulk {H : Type} : DataW H → Nat
  | .lit (.string bytes) => bytes.length + 1
  | .lit _ => 1
  | .nil => 1
  | .ptr d => uptoBulk d + 1
  | .slice elems spare => uptoBulkAll elems + uptoBulkAll spare + 1
  | .agg parts => uptoBulkAll parts + 1
  | .iface _ d => uptoBulk d + 1
  | .map entries => uptoBulkEntries entries + 1
  | .held _ => 1
def uptoBulkAll {H : Type} : List (DataW H) → Nat
  | [] => 0
  | d :: r => uptoBulk d + uptoBulkAll r
def uptoBulkEntries {H : Type} : List (Lit × DataW H) → Nat
  | [] => 0
  | x :: r => uptoBulkEntry x + uptoBulkEntries r
def uptoBulkEntry {H : Type} : Lit × DataW H → Nat
  | (.string bytes, d) => bytes.length + uptoBulk d + 1
  | (_, d) => uptoBulk d + 1
 end
def uptoSmall : (H : Type) → List (DataW H) → Bool := fun _ ds => decide (uptoBulkAll ds ≤ 1048576)
def OpenSpec.upto (s : _root_.Go.ChangeSpec) : _root_.Go.OpenSpec := { _root_.Go.OpenSpec.ofChange s with cond := some uptoSmall }

/-- 'epitomelaw05.NormalIs', WHERE WHAT IT READS IS OF BULK AT MOST 1048576: true; the input reads as it did. -/
def normalIsUptoRow : OpenClaim := { program := "ytphbemkdhneklaadoor", sum := "23a9c7cc03a996c1e207b1ca7e811a877498a4aff46b385fd2db7c3d84a9346a", func := "epitome/epitomelaw05.NormalIs", spec := "normalIs", unfollowed := true, recurses := true, named := ["epitome/span.kinds", "unicode/utf8.first", "unicode/utf8.acceptRanges"], apart := false, laid := [("unicode/utf8.acceptRanges", laid_unicode_utf8_acceptRanges), ("epitome/span.kinds", laid_epitome_span_kinds), ("unicode/utf8.first", laid_unicode_utf8_first)], narrowed := true }
def NormalIsUptoSaid : Prop := normalIsUptoRow.holds Tryd.pinned (OpenSpec.upto normalIsSpec)

/-- 'epitomelaw08.PlaceAll', WHERE WHAT IT READS IS OF BULK AT MOST 1048576: true; the input reads as it did. -/
def placeAllUptoRow : OpenClaim := { program := "ytphbemkdhneklaadoor", sum := "23a9c7cc03a996c1e207b1ca7e811a877498a4aff46b385fd2db7c3d84a9346a", func := "epitome/epitomelaw08.PlaceAll", spec := "placeAll", unfollowed := true, recurses := true, named := ["epitome/span.kinds", "unicode/utf8.first", "unicode/utf8.acceptRanges"], apart := false, laid := [("unicode/utf8.acceptRanges", laid_unicode_utf8_acceptRanges), ("epitome/span.kinds", laid_epitome_span_kinds), ("unicode/utf8.first", laid_unicode_utf8_first)], narrowed := true }
def PlaceAllUptoSaid : Prop := placeAllUptoRow.holds Tryd.pinned (OpenSpec.upto placeAllSpec)

/-- 'epitomelaw08.PlaceLeast', WHERE WHAT IT READS IS OF BULK AT MOST 1048576: true; the input reads as it did. -/
def placeLeastUptoRow : OpenClaim := { program := "ytphbemkdhneklaadoor", sum := "23a9c7cc03a996c1e207b1ca7e811a877498a4aff46b385fd2db7c3d84a9346a", func := "epitome/epitomelaw08.PlaceLeast", spec := "placeLeast", unfollowed := true, recurses := true, named := ["epitome/span.kinds", "unicode/utf8.first", "unicode/utf8.acceptRanges"], apart := false, laid := [("unicode/utf8.acceptRanges", laid_unicode_utf8_acceptRanges), ("epitome/span.kinds", laid_epitome_span_kinds), ("unicode/utf8.first", laid_unicode_utf8_first)], narrowed := true }
def PlaceLeastUptoSaid : Prop := placeLeastUptoRow.holds Tryd.pinned (OpenSpec.upto placeLeastSpec)

/-- 'epitomelaw08.PlaceGaps', WHERE WHAT IT READS IS OF BULK AT MOST 1048576: true; the input reads as it did. -/
def placeGapsUptoRow : OpenClaim := { program := "ytphbemkdhneklaadoor", sum := "23a9c7cc03a996c1e207b1ca7e811a877498a4aff46b385fd2db7c3d84a9346a", func := "epitome/epitomelaw08.PlaceGaps", spec := "placeGaps", unfollowed := true, recurses := true, named := ["epitome/span.kinds", "unicode/utf8.first", "unicode/utf8.acceptRanges"], apart := false, laid := [("unicode/utf8.acceptRanges", laid_unicode_utf8_acceptRanges), ("epitome/span.kinds", laid_epitome_span_kinds), ("unicode/utf8.first", laid_unicode_utf8_first)], narrowed := true }
def PlaceGapsUptoSaid : Prop := placeGapsUptoRow.holds Tryd.pinned (OpenSpec.upto placeGapsSpec)

/-- 'epitomelaw08.PlaceNormal', WHERE WHAT IT READS IS OF BULK AT MOST 1048576: true; the input reads as it did. -/
def placeNormalUptoRow : OpenClaim := { program := "ytphbemkdhneklaadoor", sum := "23a9c7cc03a996c1e207b1ca7e811a877498a4aff46b385fd2db7c3d84a9346a", func := "epitome/epitomelaw08.PlaceNormal", spec := "placeNormal", unfollowed := true, recurses := true, named := ["epitome/span.kinds", "unicode/utf8.first", "unicode/utf8.acceptRanges"], apart := false, laid := [("unicode/utf8.acceptRanges", laid_unicode_utf8_acceptRanges), ("epitome/span.kinds", laid_epitome_span_kinds), ("unicode/utf8.first", laid_unicode_utf8_first)], narrowed := true }
def PlaceNormalUptoSaid : Prop := placeNormalUptoRow.holds Tryd.pinned (OpenSpec.upto placeNormalSpec)

/-- 'epitomelaw09.ComposeAll', WHERE WHAT IT READS IS OF BULK AT MOST 1048576: true; the input reads as it did. -/
def composeAllUptoRow : OpenClaim := { program := "ytphbemkdhneklaadoor", sum := "23a9c7cc03a996c1e207b1ca7e811a877498a4aff46b385fd2db7c3d84a9346a", func := "epitome/epitomelaw09.ComposeAll", spec := "composeAll", unfollowed := true, recurses := true, named := ["epitome/span.kinds", "unicode/utf8.first", "unicode/utf8.acceptRanges"], apart := false, laid := [("unicode/utf8.acceptRanges", laid_unicode_utf8_acceptRanges), ("epitome/span.kinds", laid_epitome_span_kinds), ("unicode/utf8.first", laid_unicode_utf8_first)], narrowed := true }
def ComposeAllUptoSaid : Prop := composeAllUptoRow.holds Tryd.pinned (OpenSpec.upto composeAllSpec)

/-- 'epitomelaw09.ComposeThree', WHERE WHAT IT READS IS OF BULK AT MOST 1048576: true; the input reads as it did. -/
def composeThreeUptoRow : OpenClaim := { program := "ytphbemkdhneklaadoor", sum := "23a9c7cc03a996c1e207b1ca7e811a877498a4aff46b385fd2db7c3d84a9346a", func := "epitome/epitomelaw09.ComposeThree", spec := "composeThree", unfollowed := true, recurses := true, named := ["epitome/span.kinds", "unicode/utf8.first", "unicode/utf8.acceptRanges"], apart := false, laid := [("unicode/utf8.acceptRanges", laid_unicode_utf8_acceptRanges), ("epitome/span.kinds", laid_epitome_span_kinds), ("unicode/utf8.first", laid_unicode_utf8_first)], narrowed := true }
def ComposeThreeUptoSaid : Prop := composeThreeUptoRow.holds Tryd.pinned (OpenSpec.upto composeThreeSpec)

/-- 'epitomelaw09.ComposeKeeps', WHERE WHAT IT READS IS OF BULK AT MOST 1048576: true; the input reads as it did. -/
def composeKeepsUptoRow : OpenClaim := { program := "ytphbemkdhneklaadoor", sum := "23a9c7cc03a996c1e207b1ca7e811a877498a4aff46b385fd2db7c3d84a9346a", func := "epitome/epitomelaw09.ComposeKeeps", spec := "composeKeeps", unfollowed := true, recurses := true, named := ["epitome/span.kinds", "unicode/utf8.first", "unicode/utf8.acceptRanges"], apart := false, laid := [("unicode/utf8.acceptRanges", laid_unicode_utf8_acceptRanges), ("epitome/span.kinds", laid_epitome_span_kinds), ("unicode/utf8.first", laid_unicode_utf8_first)], narrowed := true }
def ComposeKeepsUptoSaid : Prop := composeKeepsUptoRow.holds Tryd.pinned (OpenSpec.upto composeKeepsSpec)

/-- 'epitomelaw09.ComposeEnds', WHERE WHAT IT READS IS OF BULK AT MOST 1048576: true; the input reads as it did. -/
def composeEndsUptoRow : OpenClaim := { program := "ytphbemkdhneklaadoor", sum := "23a9c7cc03a996c1e207b1ca7e811a877498a4aff46b385fd2db7c3d84a9346a", func := "epitome/epitomelaw09.ComposeEnds", spec := "composeEnds", unfollowed := true, recurses := true, named := ["epitome/span.kinds", "unicode/utf8.first", "unicode/utf8.acceptRanges"], apart := false, laid := [("unicode/utf8.acceptRanges", laid_unicode_utf8_acceptRanges), ("epitome/span.kinds", laid_epitome_span_kinds), ("unicode/utf8.first", laid_unicode_utf8_first)], narrowed := true }
def ComposeEndsUptoSaid : Prop := composeEndsUptoRow.holds Tryd.pinned (OpenSpec.upto composeEndsSpec)

/-- 'epitomelaw09.ComposeDoes', WHERE WHAT IT READS IS OF BULK AT MOST 1048576: true; the input reads as it did. -/
def composeDoesUptoRow : OpenClaim := { program := "ytphbemkdhneklaadoor", sum := "23a9c7cc03a996c1e207b1ca7e811a877498a4aff46b385fd2db7c3d84a9346a", func := "epitome/epitomelaw09.ComposeDoes", spec := "composeDoes", unfollowed := true, recurses := true, named := ["epitome/span.kinds", "unicode/utf8.first", "unicode/utf8.acceptRanges"], apart := false, laid := [("unicode/utf8.acceptRanges", laid_unicode_utf8_acceptRanges), ("epitome/span.kinds", laid_epitome_span_kinds), ("unicode/utf8.first", laid_unicode_utf8_first)], narrowed := true }
def ComposeDoesUptoSaid : Prop := composeDoesUptoRow.holds Tryd.pinned (OpenSpec.upto composeDoesSpec)

/-- 'epitomelaw09.ComposeThrough', WHERE WHAT IT READS IS OF BULK AT MOST 1048576: true; the input reads as it did. -/
def composeThroughUptoRow : OpenClaim := { program := "ytphbemkdhneklaadoor", sum := "23a9c7cc03a996c1e207b1ca7e811a877498a4aff46b385fd2db7c3d84a9346a", func := "epitome/epitomelaw09.ComposeThrough", spec := "composeThrough", unfollowed := true, recurses := true, named := ["epitome/span.kinds", "unicode/utf8.first", "unicode/utf8.acceptRanges"], apart := false, laid := [("unicode/utf8.acceptRanges", laid_unicode_utf8_acceptRanges), ("epitome/span.kinds", laid_epitome_span_kinds), ("unicode/utf8.first", laid_unicode_utf8_first)], narrowed := true }
def ComposeThroughUptoSaid : Prop := composeThroughUptoRow.holds Tryd.pinned (OpenSpec.upto composeThroughSpec)

/-- 'epitomelaw09.ComposeGaps', WHERE WHAT IT READS IS OF BULK AT MOST 1048576: true; the input reads as it did. -/
def composeGapsUptoRow : OpenClaim := { program := "ytphbemkdhneklaadoor", sum := "23a9c7cc03a996c1e207b1ca7e811a877498a4aff46b385fd2db7c3d84a9346a", func := "epitome/epitomelaw09.ComposeGaps", spec := "composeGaps", unfollowed := true, recurses := true, named := ["epitome/span.kinds", "unicode/utf8.first", "unicode/utf8.acceptRanges"], apart := false, laid := [("unicode/utf8.acceptRanges", laid_unicode_utf8_acceptRanges), ("epitome/span.kinds", laid_epitome_span_kinds), ("unicode/utf8.first", laid_unicode_utf8_first)], narrowed := true }
def ComposeGapsUptoSaid : Prop := composeGapsUptoRow.holds Tryd.pinned (OpenSpec.upto composeGapsSpec)

end Rows
end Go.Proofs.YtphbemkdhneklaaDoor
