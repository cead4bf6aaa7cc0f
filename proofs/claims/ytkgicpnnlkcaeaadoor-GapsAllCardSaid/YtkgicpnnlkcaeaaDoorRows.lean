/-
  NARROWER THAN 'FOR EVERY INPUT', by the rows' own cells (each row's printed sentence says how): GapsOne: laid · GapsJoin: laid · ApplyAll: laid · ApplyRow: laid · ApplyParts: laid · GapsAll: laid · GapsLeast: laid · ApplyKeeps: laid · GapsBack: laid · ApplyPlaces: laid · GapsNormal: laid · ApplyNormal: laid.
  DERIVED. THE GIVEN ROWS OF THIS SEAT. 12 by the template 'for every input the law returns true; each argument reads behind the call as it read before'; 0 by the template 'total and deterministic' (their statements: YtkgicpnnlkcaeaaDoorTotals.lean).
  GIVEN WITH THE SEED: the statements are not yours to turn. If you find one false, say at which input.
  Laid BY PROGRAM, IN A SANDBOX (cutbox-rows.mjs): the forced cells as the released guide's own fill.sh prints them over the translation 461b7f7551d0af21… (all of the seat's roots in one cut). By AI agents, Wed Nov 11 2026. No macro, syntax, notation, axiom, sorry.
-/
import Derived.Test.YtkgicpnnlkcaeaaDoorChecked
import GoSem.PinnedTables
import GoSem.Claim
import GoSem.ClaimJoined
import GoSem.ClaimMapViews
import Derived.JoinedTies
import Derived.KernelRfl
namespace Go.Proofs.YtkgicpnnlkcaeaaDoor
/- THE CELL 'sum', in the pinned program and in every row, IS THE sha256 OF THE DUMP (.gsa) THAT YtkgicpnnlkcaeaaDoorProg.lean LOADS. Nothing in Lean hashes anything: it is a label: what it is worth is what the hold of that sum in a sandbox is worth. -/
noncomputable def Tryd.pinned : Pinned := { name := "ytkgicpnnlkcaeaadoor", sum := "461b7f7551d0af21ae10f15b646253753a0e633eeaee44114f20be81460dc03c", checked := Tryd.checked }
namespace Rows
def none {H : Type} : Left H := { results := [], args := [] }

/- WHAT THE LISTED PACKAGE-LEVEL VARIABLES READ AS WHEN THE CALL BEGINS. Each datum BY PROGRAM (the guide's laid-datum.mjs) off the statement by which the dump's own 'gosem.cut.vars' lays the variable. In a bare row this is a premise. The card (YtkgicpnnlkcaeaaDoorCards.lean) ties it to the program's text. -/
def laid_unicode_utf8_acceptRanges {H : Type} : DataW H := .agg [.agg [.lit (.int .u8 128), .lit (.int .u8 191)], .agg [.lit (.int .u8 160), .lit (.int .u8 191)], .agg [.lit (.int .u8 128), .lit (.int .u8 159)], .agg [.lit (.int .u8 144), .lit (.int .u8 191)], .agg [.lit (.int .u8 128), .lit (.int .u8 143)], .agg [.lit (.int .u8 0), .lit (.int .u8 0)], .agg [.lit (.int .u8 0), .lit (.int .u8 0)], .agg [.lit (.int .u8 0), .lit (.int .u8 0)], .agg [.lit (.int .u8 0), .lit (.int .u8 0)], .agg [.lit (.int .u8 0), .lit (.int .u8 0)], .agg [.lit (.int .u8 0), .lit (.int .u8 0)], .agg [.lit (.int .u8 0), .lit (.int .u8 0)], .agg [.lit (.int .u8 0), .lit (.int .u8 0)], .agg [.lit (.int .u8 0), .lit (.int .u8 0)], .agg [.lit (.int .u8 0), .lit (.int .u8 0)], .agg [.lit (.int .u8 0), .lit (.int .u8 0)]]
def laid_epitome_span_kinds {H : Type} : DataW H := .agg [.agg [.lit (.bool false), .lit (.bool false)], .agg [.lit (.bool true), .lit (.bool true)], .agg [.lit (.bool false), .lit (.bool false)], .agg [.lit (.bool true), .lit (.bool false)]]
/-- One of Go's own tables, pinned by name: the form's constant. -/
def laid_unicode_utf8_first : DataW Unit := Go.Pinned.utf8First

/-- 'epitomelaw06.GapsOne': WHATEVER THE INPUT: true; the input reads as it did. -/
def gapsOneSpec : ChangeSpec := { name := "gapsOne", fn := fun _ => fun
  | [d1, d2] => { results := [.lit (.bool true)], args := [d1, d2] }
  | _ => none }
def gapsOneRow : OpenClaim := { program := "ytkgicpnnlkcaeaadoor", sum := "461b7f7551d0af21ae10f15b646253753a0e633eeaee44114f20be81460dc03c", func := "epitome/epitomelaw06.GapsOne", spec := "gapsOne", unfollowed := true, recurses := true, named := ["epitome/span.kinds", "unicode/utf8.first", "unicode/utf8.acceptRanges"], apart := false, laid := [("unicode/utf8.acceptRanges", laid_unicode_utf8_acceptRanges), ("epitome/span.kinds", laid_epitome_span_kinds), ("unicode/utf8.first", laid_unicode_utf8_first)] }
def GapsOneSaid : Prop := gapsOneRow.holds Tryd.pinned (OpenSpec.ofChange gapsOneSpec)

/-- ITS FALSE NEIGHBOUR: 'it returns false'. Refute it at one input. -/
def gapsOneWrong : ChangeSpec := { name := "gapsOne", fn := fun _ => fun
  | [d1, d2] => { results := [.lit (.bool false)], args := [d1, d2] }
  | _ => none }
def GapsOneWrongFalsely : Prop := gapsOneRow.holds Tryd.pinned (OpenSpec.ofChange gapsOneWrong)

/-- 'epitomelaw06.GapsJoin': WHATEVER THE INPUT: true; the input reads as it did. -/
def gapsJoinSpec : ChangeSpec := { name := "gapsJoin", fn := fun _ => fun
  | [d1, d2, d3] => { results := [.lit (.bool true)], args := [d1, d2, d3] }
  | _ => none }
def gapsJoinRow : OpenClaim := { program := "ytkgicpnnlkcaeaadoor", sum := "461b7f7551d0af21ae10f15b646253753a0e633eeaee44114f20be81460dc03c", func := "epitome/epitomelaw06.GapsJoin", spec := "gapsJoin", unfollowed := true, recurses := true, named := ["epitome/span.kinds", "unicode/utf8.first", "unicode/utf8.acceptRanges"], apart := false, laid := [("unicode/utf8.acceptRanges", laid_unicode_utf8_acceptRanges), ("epitome/span.kinds", laid_epitome_span_kinds), ("unicode/utf8.first", laid_unicode_utf8_first)] }
def GapsJoinSaid : Prop := gapsJoinRow.holds Tryd.pinned (OpenSpec.ofChange gapsJoinSpec)

/-- ITS FALSE NEIGHBOUR: 'it returns false'. Refute it at one input. -/
def gapsJoinWrong : ChangeSpec := { name := "gapsJoin", fn := fun _ => fun
  | [d1, d2, d3] => { results := [.lit (.bool false)], args := [d1, d2, d3] }
  | _ => none }
def GapsJoinWrongFalsely : Prop := gapsJoinRow.holds Tryd.pinned (OpenSpec.ofChange gapsJoinWrong)

/-- 'epitomelaw07.ApplyAll': WHATEVER THE INPUT: true; the input reads as it did. -/
def applyAllSpec : ChangeSpec := { name := "applyAll", fn := fun _ => fun
  | [d1, d2] => { results := [.lit (.bool true)], args := [d1, d2] }
  | _ => none }
def applyAllRow : OpenClaim := { program := "ytkgicpnnlkcaeaadoor", sum := "461b7f7551d0af21ae10f15b646253753a0e633eeaee44114f20be81460dc03c", func := "epitome/epitomelaw07.ApplyAll", spec := "applyAll", unfollowed := true, recurses := true, named := ["epitome/span.kinds", "unicode/utf8.first", "unicode/utf8.acceptRanges"], apart := false, laid := [("unicode/utf8.acceptRanges", laid_unicode_utf8_acceptRanges), ("epitome/span.kinds", laid_epitome_span_kinds), ("unicode/utf8.first", laid_unicode_utf8_first)] }
def ApplyAllSaid : Prop := applyAllRow.holds Tryd.pinned (OpenSpec.ofChange applyAllSpec)

/-- ITS FALSE NEIGHBOUR: 'it returns false'. Refute it at one input. -/
def applyAllWrong : ChangeSpec := { name := "applyAll", fn := fun _ => fun
  | [d1, d2] => { results := [.lit (.bool false)], args := [d1, d2] }
  | _ => none }
def ApplyAllWrongFalsely : Prop := applyAllRow.holds Tryd.pinned (OpenSpec.ofChange applyAllWrong)

/-- 'epitomelaw07.ApplyRow': WHATEVER THE INPUT: true; the input reads as it did. -/
def applyRowSpec : ChangeSpec := { name := "applyRow", fn := fun _ => fun
  | [d1, d2, d3] => { results := [.lit (.bool true)], args := [d1, d2, d3] }
  | _ => none }
def applyRowRow : OpenClaim := { program := "ytkgicpnnlkcaeaadoor", sum := "461b7f7551d0af21ae10f15b646253753a0e633eeaee44114f20be81460dc03c", func := "epitome/epitomelaw07.ApplyRow", spec := "applyRow", unfollowed := true, recurses := true, named := ["epitome/span.kinds", "unicode/utf8.first", "unicode/utf8.acceptRanges"], apart := false, laid := [("unicode/utf8.acceptRanges", laid_unicode_utf8_acceptRanges), ("epitome/span.kinds", laid_epitome_span_kinds), ("unicode/utf8.first", laid_unicode_utf8_first)] }
def ApplyRowSaid : Prop := applyRowRow.holds Tryd.pinned (OpenSpec.ofChange applyRowSpec)

/-- ITS FALSE NEIGHBOUR: 'it returns false'. Refute it at one input. -/
def applyRowWrong : ChangeSpec := { name := "applyRow", fn := fun _ => fun
  | [d1, d2, d3] => { results := [.lit (.bool false)], args := [d1, d2, d3] }
  | _ => none }
def ApplyRowWrongFalsely : Prop := applyRowRow.holds Tryd.pinned (OpenSpec.ofChange applyRowWrong)

/-- 'epitomelaw07.ApplyParts': WHATEVER THE INPUT: true; the input reads as it did. -/
def applyPartsSpec : ChangeSpec := { name := "applyParts", fn := fun _ => fun
  | [d1, d2, d3] => { results := [.lit (.bool true)], args := [d1, d2, d3] }
  | _ => none }
def applyPartsRow : OpenClaim := { program := "ytkgicpnnlkcaeaadoor", sum := "461b7f7551d0af21ae10f15b646253753a0e633eeaee44114f20be81460dc03c", func := "epitome/epitomelaw07.ApplyParts", spec := "applyParts", unfollowed := true, recurses := true, named := ["epitome/span.kinds", "unicode/utf8.first", "unicode/utf8.acceptRanges"], apart := false, laid := [("unicode/utf8.acceptRanges", laid_unicode_utf8_acceptRanges), ("epitome/span.kinds", laid_epitome_span_kinds), ("unicode/utf8.first", laid_unicode_utf8_first)] }
def ApplyPartsSaid : Prop := applyPartsRow.holds Tryd.pinned (OpenSpec.ofChange applyPartsSpec)

/-- ITS FALSE NEIGHBOUR: 'it returns false'. Refute it at one input. -/
def applyPartsWrong : ChangeSpec := { name := "applyParts", fn := fun _ => fun
  | [d1, d2, d3] => { results := [.lit (.bool false)], args := [d1, d2, d3] }
  | _ => none }
def ApplyPartsWrongFalsely : Prop := applyPartsRow.holds Tryd.pinned (OpenSpec.ofChange applyPartsWrong)

/-- 'epitomelaw06.GapsAll': WHATEVER THE INPUT: true; the input reads as it did. -/
def gapsAllSpec : ChangeSpec := { name := "gapsAll", fn := fun _ => fun
  | [d1, d2] => { results := [.lit (.bool true)], args := [d1, d2] }
  | _ => none }
def gapsAllRow : OpenClaim := { program := "ytkgicpnnlkcaeaadoor", sum := "461b7f7551d0af21ae10f15b646253753a0e633eeaee44114f20be81460dc03c", func := "epitome/epitomelaw06.GapsAll", spec := "gapsAll", unfollowed := true, recurses := true, named := ["epitome/span.kinds", "unicode/utf8.first", "unicode/utf8.acceptRanges"], apart := false, laid := [("unicode/utf8.acceptRanges", laid_unicode_utf8_acceptRanges), ("epitome/span.kinds", laid_epitome_span_kinds), ("unicode/utf8.first", laid_unicode_utf8_first)] }
def GapsAllSaid : Prop := gapsAllRow.holds Tryd.pinned (OpenSpec.ofChange gapsAllSpec)

/-- ITS FALSE NEIGHBOUR: 'it returns false'. Refute it at one input. -/
def gapsAllWrong : ChangeSpec := { name := "gapsAll", fn := fun _ => fun
  | [d1, d2] => { results := [.lit (.bool false)], args := [d1, d2] }
  | _ => none }
def GapsAllWrongFalsely : Prop := gapsAllRow.holds Tryd.pinned (OpenSpec.ofChange gapsAllWrong)

/-- 'epitomelaw06.GapsLeast': WHATEVER THE INPUT: true; the input reads as it did. -/
def gapsLeastSpec : ChangeSpec := { name := "gapsLeast", fn := fun _ => fun
  | [d1, d2] => { results := [.lit (.bool true)], args := [d1, d2] }
  | _ => none }
def gapsLeastRow : OpenClaim := { program := "ytkgicpnnlkcaeaadoor", sum := "461b7f7551d0af21ae10f15b646253753a0e633eeaee44114f20be81460dc03c", func := "epitome/epitomelaw06.GapsLeast", spec := "gapsLeast", unfollowed := true, recurses := true, named := ["epitome/span.kinds", "unicode/utf8.first", "unicode/utf8.acceptRanges"], apart := false, laid := [("unicode/utf8.acceptRanges", laid_unicode_utf8_acceptRanges), ("epitome/span.kinds", laid_epitome_span_kinds), ("unicode/utf8.first", laid_unicode_utf8_first)] }
def GapsLeastSaid : Prop := gapsLeastRow.holds Tryd.pinned (OpenSpec.ofChange gapsLeastSpec)

/-- ITS FALSE NEIGHBOUR: 'it returns false'. Refute it at one input. -/
def gapsLeastWrong : ChangeSpec := { name := "gapsLeast", fn := fun _ => fun
  | [d1, d2] => { results := [.lit (.bool false)], args := [d1, d2] }
  | _ => none }
def GapsLeastWrongFalsely : Prop := gapsLeastRow.holds Tryd.pinned (OpenSpec.ofChange gapsLeastWrong)

/-- 'epitomelaw07.ApplyKeeps': WHATEVER THE INPUT: true; the input reads as it did. -/
def applyKeepsSpec : ChangeSpec := { name := "applyKeeps", fn := fun _ => fun
  | [d1, d2] => { results := [.lit (.bool true)], args := [d1, d2] }
  | _ => none }
def applyKeepsRow : OpenClaim := { program := "ytkgicpnnlkcaeaadoor", sum := "461b7f7551d0af21ae10f15b646253753a0e633eeaee44114f20be81460dc03c", func := "epitome/epitomelaw07.ApplyKeeps", spec := "applyKeeps", unfollowed := true, recurses := true, named := ["epitome/span.kinds", "unicode/utf8.first", "unicode/utf8.acceptRanges"], apart := false, laid := [("unicode/utf8.acceptRanges", laid_unicode_utf8_acceptRanges), ("epitome/span.kinds", laid_epitome_span_kinds), ("unicode/utf8.first", laid_unicode_utf8_first)] }
def ApplyKeepsSaid : Prop := applyKeepsRow.holds Tryd.pinned (OpenSpec.ofChange applyKeepsSpec)

/-- ITS FALSE NEIGHBOUR: 'it returns false'. Refute it at one input. -/
def applyKeepsWrong : ChangeSpec := { name := "applyKeeps", fn := fun _ => fun
  | [d1, d2] => { results := [.lit (.bool false)], args := [d1, d2] }
  | _ => none }
def ApplyKeepsWrongFalsely : Prop := applyKeepsRow.holds Tryd.pinned (OpenSpec.ofChange applyKeepsWrong)

/-- 'epitomelaw06.GapsBack': WHATEVER THE INPUT: true; the input reads as it did. -/
def gapsBackSpec : ChangeSpec := { name := "gapsBack", fn := fun _ => fun
  | [d] => { results := [.lit (.bool true)], args := [d] }
  | _ => none }
def gapsBackRow : OpenClaim := { program := "ytkgicpnnlkcaeaadoor", sum := "461b7f7551d0af21ae10f15b646253753a0e633eeaee44114f20be81460dc03c", func := "epitome/epitomelaw06.GapsBack", spec := "gapsBack", unfollowed := true, recurses := true, named := ["epitome/span.kinds", "unicode/utf8.first", "unicode/utf8.acceptRanges"], apart := false, laid := [("unicode/utf8.acceptRanges", laid_unicode_utf8_acceptRanges), ("epitome/span.kinds", laid_epitome_span_kinds), ("unicode/utf8.first", laid_unicode_utf8_first)] }
def GapsBackSaid : Prop := gapsBackRow.holds Tryd.pinned (OpenSpec.ofChange gapsBackSpec)

/-- ITS FALSE NEIGHBOUR: 'it returns false'. Refute it at one input. -/
def gapsBackWrong : ChangeSpec := { name := "gapsBack", fn := fun _ => fun
  | [d] => { results := [.lit (.bool false)], args := [d] }
  | _ => none }
def GapsBackWrongFalsely : Prop := gapsBackRow.holds Tryd.pinned (OpenSpec.ofChange gapsBackWrong)

/-- 'epitomelaw07.ApplyPlaces': WHATEVER THE INPUT: true; the input reads as it did. -/
def applyPlacesSpec : ChangeSpec := { name := "applyPlaces", fn := fun _ => fun
  | [d1, d2] => { results := [.lit (.bool true)], args := [d1, d2] }
  | _ => none }
def applyPlacesRow : OpenClaim := { program := "ytkgicpnnlkcaeaadoor", sum := "461b7f7551d0af21ae10f15b646253753a0e633eeaee44114f20be81460dc03c", func := "epitome/epitomelaw07.ApplyPlaces", spec := "applyPlaces", unfollowed := true, recurses := true, named := ["epitome/span.kinds", "unicode/utf8.first", "unicode/utf8.acceptRanges"], apart := false, laid := [("unicode/utf8.acceptRanges", laid_unicode_utf8_acceptRanges), ("epitome/span.kinds", laid_epitome_span_kinds), ("unicode/utf8.first", laid_unicode_utf8_first)] }
def ApplyPlacesSaid : Prop := applyPlacesRow.holds Tryd.pinned (OpenSpec.ofChange applyPlacesSpec)

/-- ITS FALSE NEIGHBOUR: 'it returns false'. Refute it at one input. -/
def applyPlacesWrong : ChangeSpec := { name := "applyPlaces", fn := fun _ => fun
  | [d1, d2] => { results := [.lit (.bool false)], args := [d1, d2] }
  | _ => none }
def ApplyPlacesWrongFalsely : Prop := applyPlacesRow.holds Tryd.pinned (OpenSpec.ofChange applyPlacesWrong)

/-- 'epitomelaw06.GapsNormal': WHATEVER THE INPUT: true; the input reads as it did. -/
def gapsNormalSpec : ChangeSpec := { name := "gapsNormal", fn := fun _ => fun
  | [d1, d2, d3] => { results := [.lit (.bool true)], args := [d1, d2, d3] }
  | _ => none }
def gapsNormalRow : OpenClaim := { program := "ytkgicpnnlkcaeaadoor", sum := "461b7f7551d0af21ae10f15b646253753a0e633eeaee44114f20be81460dc03c", func := "epitome/epitomelaw06.GapsNormal", spec := "gapsNormal", unfollowed := true, recurses := true, named := ["epitome/span.kinds", "unicode/utf8.first", "unicode/utf8.acceptRanges"], apart := false, laid := [("unicode/utf8.acceptRanges", laid_unicode_utf8_acceptRanges), ("epitome/span.kinds", laid_epitome_span_kinds), ("unicode/utf8.first", laid_unicode_utf8_first)] }
def GapsNormalSaid : Prop := gapsNormalRow.holds Tryd.pinned (OpenSpec.ofChange gapsNormalSpec)

/-- ITS FALSE NEIGHBOUR: 'it returns false'. Refute it at one input. -/
def gapsNormalWrong : ChangeSpec := { name := "gapsNormal", fn := fun _ => fun
  | [d1, d2, d3] => { results := [.lit (.bool false)], args := [d1, d2, d3] }
  | _ => none }
def GapsNormalWrongFalsely : Prop := gapsNormalRow.holds Tryd.pinned (OpenSpec.ofChange gapsNormalWrong)

/-- 'epitomelaw07.ApplyNormal': WHATEVER THE INPUT: true; the input reads as it did. -/
def applyNormalSpec : ChangeSpec := { name := "applyNormal", fn := fun _ => fun
  | [d1, d2] => { results := [.lit (.bool true)], args := [d1, d2] }
  | _ => none }
def applyNormalRow : OpenClaim := { program := "ytkgicpnnlkcaeaadoor", sum := "461b7f7551d0af21ae10f15b646253753a0e633eeaee44114f20be81460dc03c", func := "epitome/epitomelaw07.ApplyNormal", spec := "applyNormal", unfollowed := true, recurses := true, named := ["epitome/span.kinds", "unicode/utf8.first", "unicode/utf8.acceptRanges"], apart := false, laid := [("unicode/utf8.acceptRanges", laid_unicode_utf8_acceptRanges), ("epitome/span.kinds", laid_epitome_span_kinds), ("unicode/utf8.first", laid_unicode_utf8_first)] }
def ApplyNormalSaid : Prop := applyNormalRow.holds Tryd.pinned (OpenSpec.ofChange applyNormalSpec)

/-- ITS FALSE NEIGHBOUR: 'it returns false'. Refute it at one input. -/
def applyNormalWrong : ChangeSpec := { name := "applyNormal", fn := fun _ => fun
  | [d1, d2] => { results := [.lit (.bool false)], args := [d1, d2] }
  | _ => none }
def ApplyNormalWrongFalsely : Prop := applyNormalRow.holds Tryd.pinned (OpenSpec.ofChange applyNormalWrong)

/- THE SECOND FORM. 'bulk': how many values and letters a reading holds, each counted each time it is reached (what is shared counts as often as it is met; a slice's spare places count too). A statement '..UptoSaid' is the law's where the arguments, and the package variables that the reading takes, are together of bulk at most 1048576: NARROWER than '..Said'. Prove '..Said' where nothing that the law and all that it calls make is longer than what came in: it says more and counts as full. Else prove '..UptoSaid'. A law counts once. -/
mutual
def uptoBulk {H : Type} : DataW H → Nat
  | .lit (.string bytes) => bytes.length + 1
  | .lit _ => 1
  | .nil => 1
  | .ptr d => uptoBulk d + 1
  | .slice elems spare => uptoBulkAll elems + uptoBulkAll spare + 1
  | .agg parts => uptoBulkAll parts + 1
  | .iface _ d => uptoBulk d + 1
  | .map entries => uptoBulkEntries entries + 1
  | .held _ => 1
def uptoBulkAll {H : Type} : List (DataW H) → Nat
  | [] => 0
  | d :: r => uptoBulk d + uptoBulkAll r
def uptoBulkEntries {H : Type} : List (Lit × DataW H) → Nat
  | [] => 0
  | x :: r => uptoBulkEntry x + uptoBulkEntries r
def uptoBulkEntry {H : Type} : Lit × DataW H → Nat
  | (.string bytes, d) => bytes.length + uptoBulk d + 1
  | (_, d) => uptoBulk d + 1
 end
def uptoSmall : (H : Type) → List (DataW H) → Bool := fun _ ds => decide (uptoBulkAll ds ≤ 1048576)
def OpenSpec.upto (s : _root_.Go.ChangeSpec) : _root_.Go.OpenSpec := { _root_.Go.OpenSpec.ofChange s with cond := some uptoSmall }

/-- 'epitomelaw06.GapsOne', WHERE WHAT IT READS IS OF BULK AT MOST 1048576: true; the input reads as it did. -/
def gapsOneUptoRow : OpenClaim := { program := "ytkgicpnnlkcaeaadoor", sum := "461b7f7551d0af21ae10f15b646253753a0e633eeaee44114f20be81460dc03c", func := "epitome/epitomelaw06.GapsOne", spec := "gapsOne", unfollowed := true, recurses := true, named := ["epitome/span.kinds", "unicode/utf8.first", "unicode/utf8.acceptRanges"], apart := false, laid := [("unicode/utf8.acceptRanges", laid_unicode_utf8_acceptRanges), ("epitome/span.kinds", laid_epitome_span_kinds), ("unicode/utf8.first", laid_unicode_utf8_first)], narrowed := true }
def GapsOneUptoSaid : Prop := gapsOneUptoRow.holds Tryd.pinned (OpenSpec.upto gapsOneSpec)

/-- 'epitomelaw06.GapsJoin', WHERE WHAT IT READS IS OF BULK AT MOST 1048576: true; the input reads as it did. -/
def gapsJoinUptoRow : OpenClaim := { program := "ytkgicpnnlkcaeaadoor", sum := "461b7f7551d0af21ae10f15b646253753a0e633eeaee44114f20be81460dc03c", func := "epitome/epitomelaw06.GapsJoin", spec := "gapsJoin", unfollowed := true, recurses := true, named := ["epitome/span.kinds", "unicode/utf8.first", "unicode/utf8.acceptRanges"], apart := false, laid := [("unicode/utf8.acceptRanges", laid_unicode_utf8_acceptRanges), ("epitome/span.kinds", laid_epitome_span_kinds), ("unicode/utf8.first", laid_unicode_utf8_first)], narrowed := true }
def GapsJoinUptoSaid : Prop := gapsJoinUptoRow.holds Tryd.pinned (OpenSpec.upto gapsJoinSpec)

/-- 'epitomelaw07.ApplyAll', WHERE WHAT IT READS IS OF BULK AT MOST 1048576: true; the input reads as it did. -/
def applyAllUptoRow : OpenClaim := { program := "ytkgicpnnlkcaeaadoor", sum := "461b7f7551d0af21ae10f15b646253753a0e633eeaee44114f20be81460dc03c", func := "epitome/epitomelaw07.ApplyAll", spec := "applyAll", unfollowed := true, recurses := true, named := ["epitome/span.kinds", "unicode/utf8.first", "unicode/utf8.acceptRanges"], apart := false, laid := [("unicode/utf8.acceptRanges", laid_unicode_utf8_acceptRanges), ("epitome/span.kinds", laid_epitome_span_kinds), ("unicode/utf8.first", laid_unicode_utf8_first)], narrowed := true }
def ApplyAllUptoSaid : Prop := applyAllUptoRow.holds Tryd.pinned (OpenSpec.upto applyAllSpec)

/-- 'epitomelaw07.ApplyRow', WHERE WHAT IT READS IS OF BULK AT MOST 1048576: true; the input reads as it did. -/
def applyRowUptoRow : OpenClaim := { program := "ytkgicpnnlkcaeaadoor", sum := "461b7f7551d0af21ae10f15b646253753a0e633eeaee44114f20be81460dc03c", func := "epitome/epitomelaw07.ApplyRow", spec := "applyRow", unfollowed := true, recurses := true, named := ["epitome/span.kinds", "unicode/utf8.first", "unicode/utf8.acceptRanges"], apart := false, laid := [("unicode/utf8.acceptRanges", laid_unicode_utf8_acceptRanges), ("epitome/span.kinds", laid_epitome_span_kinds), ("unicode/utf8.first", laid_unicode_utf8_first)], narrowed := true }
def ApplyRowUptoSaid : Prop := applyRowUptoRow.holds Tryd.pinned (OpenSpec.upto applyRowSpec)

/-- 'epitomelaw07.ApplyParts', WHERE WHAT IT READS IS OF BULK AT MOST 1048576: true; the input reads as it did. -/
def applyPartsUptoRow : OpenClaim := { program := "ytkgicpnnlkcaeaadoor", sum := "461b7f7551d0af21ae10f15b646253753a0e633eeaee44114f20be81460dc03c", func := "epitome/epitomelaw07.ApplyParts", spec := "applyParts", unfollowed := true, recurses := true, named := ["epitome/span.kinds", "unicode/utf8.first", "unicode/utf8.acceptRanges"], apart := false, laid := [("unicode/utf8.acceptRanges", laid_unicode_utf8_acceptRanges), ("epitome/span.kinds", laid_epitome_span_kinds), ("unicode/utf8.first", laid_unicode_utf8_first)], narrowed := true }
def ApplyPartsUptoSaid : Prop := applyPartsUptoRow.holds Tryd.pinned (OpenSpec.upto applyPartsSpec)

/-- 'epitomelaw06.GapsAll', WHERE WHAT IT READS IS OF BULK AT MOST 1048576: true; the input reads as it did. -/
def gapsAllUptoRow : OpenClaim := { program := "ytkgicpnnlkcaeaadoor", sum := "461b7f7551d0af21ae10f15b646253753a0e633eeaee44114f20be81460dc03c", func := "epitome/epitomelaw06.GapsAll", spec := "gapsAll", unfollowed := true, recurses := true, named := ["epitome/span.kinds", "unicode/utf8.first", "unicode/utf8.acceptRanges"], apart := false, laid := [("unicode/utf8.acceptRanges", laid_unicode_utf8_acceptRanges), ("epitome/span.kinds", laid_epitome_span_kinds), ("unicode/utf8.first", laid_unicode_utf8_first)], narrowed := true }
def GapsAllUptoSaid : Prop := gapsAllUptoRow.holds Tryd.pinned (OpenSpec.upto gapsAllSpec)

/-- 'epitomelaw06.GapsLeast', WHERE WHAT IT READS IS OF BULK AT MOST 1048576: true; the input reads as it did. -/
def gapsLeastUptoRow : OpenClaim := { program := "ytkgicpnnlkcaeaadoor", sum := "461b7f7551d0af21ae10f15b646253753a0e633eeaee44114f20be81460dc03c", func := "epitome/epitomelaw06.GapsLeast", spec := "gapsLeast", unfollowed := true, recurses := true, named := ["epitome/span.kinds", "unicode/utf8.first", "unicode/utf8.acceptRanges"], apart := false, laid := [("unicode/utf8.acceptRanges", laid_unicode_utf8_acceptRanges), ("epitome/span.kinds", laid_epitome_span_kinds), ("unicode/utf8.first", laid_unicode_utf8_first)], narrowed := true }
def GapsLeastUptoSaid : Prop := gapsLeastUptoRow.holds Tryd.pinned (OpenSpec.upto gapsLeastSpec)

/-- 'epitomelaw07.ApplyKeeps', WHERE WHAT IT READS IS OF BULK AT MOST 1048576: true; the input reads as it did. -/
def applyKeepsUptoRow : OpenClaim := { program := "ytkgicpnnlkcaeaadoor", sum := "461b7f7551d0af21ae10f15b646253753a0e633eeaee44114f20be81460dc03c", func := "epitome/epitomelaw07.ApplyKeeps", spec := "applyKeeps", unfollowed := true, recurses := true, named := ["epitome/span.kinds", "unicode/utf8.first", "unicode/utf8.acceptRanges"], apart := false, laid := [("unicode/utf8.acceptRanges", laid_unicode_utf8_acceptRanges), ("epitome/span.kinds", laid_epitome_span_kinds), ("unicode/utf8.first", laid_unicode_utf8_first)], narrowed := true }
def ApplyKeepsUptoSaid : Prop := applyKeepsUptoRow.holds Tryd.pinned (OpenSpec.upto applyKeepsSpec)

/-- 'epitomelaw06.GapsBack', WHERE WHAT IT READS IS OF BULK AT MOST 1048576: true; the input reads as it did. -/
def gapsBackUptoRow : OpenClaim := { program := "ytkgicpnnlkcaeaadoor", sum := "461b7f7551d0af21ae10f15b646253753a0e633eeaee44114f20be81460dc03c", func := "epitome/epitomelaw06.GapsBack", spec := "gapsBack", unfollowed := true, recurses := true, named := ["epitome/span.kinds", "unicode/utf8.first", "unicode/utf8.acceptRanges"], apart := false, laid := [("unicode/utf8.acceptRanges", laid_unicode_utf8_acceptRanges), ("epitome/span.kinds", laid_epitome_span_kinds), ("unicode/utf8.first", laid_unicode_utf8_first)], narrowed := true }
def GapsBackUptoSaid : Prop := gapsBackUptoRow.holds Tryd.pinned (OpenSpec.upto gapsBackSpec)

/-- 'epitomelaw07.ApplyPlaces', WHERE WHAT IT READS IS OF BULK AT MOST 1048576: true; the input reads as it did. -/
def applyPlacesUptoRow : OpenClaim := { program := "ytkgicpnnlkcaeaadoor", sum := "461b7f7551d0af21ae10f15b646253753a0e633eeaee44114f20be81460dc03c", func := "epitome/epitomelaw07.ApplyPlaces", spec := "applyPlaces", unfollowed := true, recurses := true, named := ["epitome/span.kinds", "unicode/utf8.first", "unicode/utf8.acceptRanges"], apart := false, laid := [("unicode/utf8.acceptRanges", laid_unicode_utf8_acceptRanges), ("epitome/span.kinds", laid_epitome_span_kinds), ("unicode/utf8.first", laid_unicode_utf8_first)], narrowed := true }
def ApplyPlacesUptoSaid : Prop := applyPlacesUptoRow.holds Tryd.pinned (OpenSpec.upto applyPlacesSpec)

/-- 'epitomelaw06.GapsNormal', WHERE WHAT IT READS IS OF BULK AT MOST 1048576: true; the input reads as it did. -/
def gapsNormalUptoRow : OpenClaim := { program := "ytkgicpnnlkcaeaadoor", sum := "461b7f7551d0af21ae10f15b646253753a0e633eeaee44114f20be81460dc03c", func := "epitome/epitomelaw06.GapsNormal", spec := "gapsNormal", unfollowed := true, recurses := true, named := ["epitome/span.kinds", "unicode/utf8.first", "unicode/utf8.acceptRanges"], apart := false, laid := [("unicode/utf8.acceptRanges", laid_unicode_utf8_acceptRanges), ("epitome/span.kinds", laid_epitome_span_kinds), ("unicode/utf8.first", laid_unicode_utf8_first)], narrowed := true }
def GapsNormalUptoSaid : Prop := gapsNormalUptoRow.holds Tryd.pinned (OpenSpec.upto gapsNormalSpec)

/-- 'epitomelaw07.ApplyNormal', WHERE WHAT IT READS IS OF BULK AT MOST 1048576: true; the input reads as it did. -/
def applyNormalUptoRow : OpenClaim := { program := "ytkgicpnnlkcaeaadoor", sum := "461b7f7551d0af21ae10f15b646253753a0e633eeaee44114f20be81460dc03c", func := "epitome/epitomelaw07.ApplyNormal", spec := "applyNormal", unfollowed := true, recurses := true, named := ["epitome/span.kinds", "unicode/utf8.first", "unicode/utf8.acceptRanges"], apart := false, laid := [("unicode/utf8.acceptRanges", laid_unicode_utf8_acceptRanges), ("epitome/span.kinds", laid_epitome_span_kinds), ("unicode/utf8.first", laid_unicode_utf8_first)], narrowed := true }
def ApplyNormalUptoSaid : Prop := applyNormalUptoRow.holds Tryd.pinned (OpenSpec.upto applyNormalSpec)

end Rows
end Go.Proofs.YtkgicpnnlkcaeaaDoor
