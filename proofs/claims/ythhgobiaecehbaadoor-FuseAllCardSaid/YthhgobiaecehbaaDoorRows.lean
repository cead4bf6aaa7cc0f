/-
  NARROWER THAN 'FOR EVERY INPUT', by the rows' own cells (each row's printed sentence says how): FuseAll: laid · FuseParts: laid · FuseCancels: laid · FuseOne: laid · FuseFirst: laid · FuseDoes: laid · ThroughAll: laid · ThroughParts: laid · ThroughNone: laid · ThroughSteps: laid · ThroughMeets: laid.
  DERIVED. THE GIVEN ROWS OF THIS SEAT. 11 by the template 'for every input the law returns true; each argument reads behind the call as it read before'; 0 by the template 'total and deterministic' (their statements: YthhgobiaecehbaaDoorTotals.lean).
  GIVEN WITH THE SEED: the statements are not yours to turn. If you find one false, say at which input.
  Laid BY PROGRAM, IN A SANDBOX (cutbox-rows.mjs): the forced cells as the released guide's own fill.sh prints them over the translation 71f4b254237651ac… (all of the seat's roots in one cut). By AI agents, Wed Nov 11 2026. No macro, syntax, notation, axiom, sorry.
-/
import Derived.Test.YthhgobiaecehbaaDoorChecked
import GoSem.PinnedTables
import GoSem.Claim
import GoSem.ClaimJoined
import GoSem.ClaimMapViews
import Derived.JoinedTies
import Derived.KernelRfl
namespace Go.Proofs.YthhgobiaecehbaaDoor
/- THE CELL 'sum', in the pinned program and in every row, IS THE sha256 OF THE DUMP (.gsa) THAT YthhgobiaecehbaaDoorProg.lean LOADS. Nothing in Lean hashes anything: it is a label: what it is worth is what the hold of that sum in a sandbox is worth. -/
noncomputable def Tryd.pinned : Pinned := { name := "ythhgobiaecehbaadoor", sum := "71f4b254237651ac9eb5d9a62ad0bcc29434cc3758af5910e356090b3bec0c3e", checked := Tryd.checked }
namespace Rows
def none {H : Type} : Left H := { results := [], args := [] }

/- WHAT THE LISTED PACKAGE-LEVEL VARIABLES READ AS WHEN THE CALL BEGINS. Each datum BY PROGRAM (the guide's laid-datum.mjs) off the statement by which the dump's own 'gosem.cut.vars' lays the variable. In a bare row this is a premise. The card (YthhgobiaecehbaaDoorCards.lean) ties it to the program's text. -/
def laid_unicode_utf8_acceptRanges {H : Type} : DataW H := .agg [.agg [.lit (.int .u8 128), .lit (.int .u8 191)], .agg [.lit (.int .u8 160), .lit (.int .u8 191)], .agg [.lit (.int .u8 128), .lit (.int .u8 159)], .agg [.lit (.int .u8 144), .lit (.int .u8 191)], .agg [.lit (.int .u8 128), .lit (.int .u8 143)], .agg [.lit (.int .u8 0), .lit (.int .u8 0)], .agg [.lit (.int .u8 0), .lit (.int .u8 0)], .agg [.lit (.int .u8 0), .lit (.int .u8 0)], .agg [.lit (.int .u8 0), .lit (.int .u8 0)], .agg [.lit (.int .u8 0), .lit (.int .u8 0)], .agg [.lit (.int .u8 0), .lit (.int .u8 0)], .agg [.lit (.int .u8 0), .lit (.int .u8 0)], .agg [.lit (.int .u8 0), .lit (.int .u8 0)], .agg [.lit (.int .u8 0), .lit (.int .u8 0)], .agg [.lit (.int .u8 0), .lit (.int .u8 0)], .agg [.lit (.int .u8 0), .lit (.int .u8 0)]]
def laid_epitome_span_kinds {H : Type} : DataW H := .agg [.agg [.lit (.bool false), .lit (.bool false)], .agg [.lit (.bool true), .lit (.bool true)], .agg [.lit (.bool false), .lit (.bool false)], .agg [.lit (.bool true), .lit (.bool false)]]
/-- One of Go's own tables, pinned by name: the form's constant. -/
def laid_unicode_utf8_first : DataW Unit := Go.Pinned.utf8First

/-- 'epitomelaw10.FuseAll': WHATEVER THE INPUT: true; the input reads as it did. -/
def fuseAllSpec : ChangeSpec := { name := "fuseAll", fn := fun _ => fun
  | [d1, d2, d3] => { results := [.lit (.bool true)], args := [d1, d2, d3] }
  | _ => none }
def fuseAllRow : OpenClaim := { program := "ythhgobiaecehbaadoor", sum := "71f4b254237651ac9eb5d9a62ad0bcc29434cc3758af5910e356090b3bec0c3e", func := "epitome/epitomelaw10.FuseAll", spec := "fuseAll", unfollowed := true, recurses := true, named := ["epitome/span.kinds", "unicode/utf8.first", "unicode/utf8.acceptRanges"], apart := false, laid := [("unicode/utf8.acceptRanges", laid_unicode_utf8_acceptRanges), ("epitome/span.kinds", laid_epitome_span_kinds), ("unicode/utf8.first", laid_unicode_utf8_first)] }
def FuseAllSaid : Prop := fuseAllRow.holds Tryd.pinned (OpenSpec.ofChange fuseAllSpec)

/-- ITS FALSE NEIGHBOUR: 'it returns false'. Refute it at one input. -/
def fuseAllWrong : ChangeSpec := { name := "fuseAll", fn := fun _ => fun
  | [d1, d2, d3] => { results := [.lit (.bool false)], args := [d1, d2, d3] }
  | _ => none }
def FuseAllWrongFalsely : Prop := fuseAllRow.holds Tryd.pinned (OpenSpec.ofChange fuseAllWrong)

/-- 'epitomelaw10.FuseParts': WHATEVER THE INPUT: true; the input reads as it did. -/
def fusePartsSpec : ChangeSpec := { name := "fuseParts", fn := fun _ => fun
  | [d1, d2, d3] => { results := [.lit (.bool true)], args := [d1, d2, d3] }
  | _ => none }
def fusePartsRow : OpenClaim := { program := "ythhgobiaecehbaadoor", sum := "71f4b254237651ac9eb5d9a62ad0bcc29434cc3758af5910e356090b3bec0c3e", func := "epitome/epitomelaw10.FuseParts", spec := "fuseParts", unfollowed := true, recurses := true, named := ["epitome/span.kinds", "unicode/utf8.first", "unicode/utf8.acceptRanges"], apart := false, laid := [("unicode/utf8.acceptRanges", laid_unicode_utf8_acceptRanges), ("epitome/span.kinds", laid_epitome_span_kinds), ("unicode/utf8.first", laid_unicode_utf8_first)] }
def FusePartsSaid : Prop := fusePartsRow.holds Tryd.pinned (OpenSpec.ofChange fusePartsSpec)

/-- ITS FALSE NEIGHBOUR: 'it returns false'. Refute it at one input. -/
def fusePartsWrong : ChangeSpec := { name := "fuseParts", fn := fun _ => fun
  | [d1, d2, d3] => { results := [.lit (.bool false)], args := [d1, d2, d3] }
  | _ => none }
def FusePartsWrongFalsely : Prop := fusePartsRow.holds Tryd.pinned (OpenSpec.ofChange fusePartsWrong)

/-- 'epitomelaw10.FuseCancels': WHATEVER THE INPUT: true; the input reads as it did. -/
def fuseCancelsSpec : ChangeSpec := { name := "fuseCancels", fn := fun _ => fun
  | [d1, d2, d3] => { results := [.lit (.bool true)], args := [d1, d2, d3] }
  | _ => none }
def fuseCancelsRow : OpenClaim := { program := "ythhgobiaecehbaadoor", sum := "71f4b254237651ac9eb5d9a62ad0bcc29434cc3758af5910e356090b3bec0c3e", func := "epitome/epitomelaw10.FuseCancels", spec := "fuseCancels", unfollowed := true, recurses := true, named := ["epitome/span.kinds", "unicode/utf8.first", "unicode/utf8.acceptRanges"], apart := false, laid := [("unicode/utf8.acceptRanges", laid_unicode_utf8_acceptRanges), ("epitome/span.kinds", laid_epitome_span_kinds), ("unicode/utf8.first", laid_unicode_utf8_first)] }
def FuseCancelsSaid : Prop := fuseCancelsRow.holds Tryd.pinned (OpenSpec.ofChange fuseCancelsSpec)

/-- ITS FALSE NEIGHBOUR: 'it returns false'. Refute it at one input. -/
def fuseCancelsWrong : ChangeSpec := { name := "fuseCancels", fn := fun _ => fun
  | [d1, d2, d3] => { results := [.lit (.bool false)], args := [d1, d2, d3] }
  | _ => none }
def FuseCancelsWrongFalsely : Prop := fuseCancelsRow.holds Tryd.pinned (OpenSpec.ofChange fuseCancelsWrong)

/-- 'epitomelaw10.FuseOne': WHATEVER THE INPUT: true; the input reads as it did. -/
def fuseOneSpec : ChangeSpec := { name := "fuseOne", fn := fun _ => fun
  | [d1, d2, d3] => { results := [.lit (.bool true)], args := [d1, d2, d3] }
  | _ => none }
def fuseOneRow : OpenClaim := { program := "ythhgobiaecehbaadoor", sum := "71f4b254237651ac9eb5d9a62ad0bcc29434cc3758af5910e356090b3bec0c3e", func := "epitome/epitomelaw10.FuseOne", spec := "fuseOne", unfollowed := true, recurses := true, named := ["epitome/span.kinds", "unicode/utf8.first", "unicode/utf8.acceptRanges"], apart := false, laid := [("unicode/utf8.acceptRanges", laid_unicode_utf8_acceptRanges), ("epitome/span.kinds", laid_epitome_span_kinds), ("unicode/utf8.first", laid_unicode_utf8_first)] }
def FuseOneSaid : Prop := fuseOneRow.holds Tryd.pinned (OpenSpec.ofChange fuseOneSpec)

/-- ITS FALSE NEIGHBOUR: 'it returns false'. Refute it at one input. -/
def fuseOneWrong : ChangeSpec := { name := "fuseOne", fn := fun _ => fun
  | [d1, d2, d3] => { results := [.lit (.bool false)], args := [d1, d2, d3] }
  | _ => none }
def FuseOneWrongFalsely : Prop := fuseOneRow.holds Tryd.pinned (OpenSpec.ofChange fuseOneWrong)

/-- 'epitomelaw10.FuseFirst': WHATEVER THE INPUT: true; the input reads as it did. -/
def fuseFirstSpec : ChangeSpec := { name := "fuseFirst", fn := fun _ => fun
  | [d1, d2, d3] => { results := [.lit (.bool true)], args := [d1, d2, d3] }
  | _ => none }
def fuseFirstRow : OpenClaim := { program := "ythhgobiaecehbaadoor", sum := "71f4b254237651ac9eb5d9a62ad0bcc29434cc3758af5910e356090b3bec0c3e", func := "epitome/epitomelaw10.FuseFirst", spec := "fuseFirst", unfollowed := true, recurses := true, named := ["epitome/span.kinds", "unicode/utf8.first", "unicode/utf8.acceptRanges"], apart := false, laid := [("unicode/utf8.acceptRanges", laid_unicode_utf8_acceptRanges), ("epitome/span.kinds", laid_epitome_span_kinds), ("unicode/utf8.first", laid_unicode_utf8_first)] }
def FuseFirstSaid : Prop := fuseFirstRow.holds Tryd.pinned (OpenSpec.ofChange fuseFirstSpec)

/-- ITS FALSE NEIGHBOUR: 'it returns false'. Refute it at one input. -/
def fuseFirstWrong : ChangeSpec := { name := "fuseFirst", fn := fun _ => fun
  | [d1, d2, d3] => { results := [.lit (.bool false)], args := [d1, d2, d3] }
  | _ => none }
def FuseFirstWrongFalsely : Prop := fuseFirstRow.holds Tryd.pinned (OpenSpec.ofChange fuseFirstWrong)

/-- 'epitomelaw10.FuseDoes': WHATEVER THE INPUT: true; the input reads as it did. -/
def fuseDoesSpec : ChangeSpec := { name := "fuseDoes", fn := fun _ => fun
  | [d1, d2] => { results := [.lit (.bool true)], args := [d1, d2] }
  | _ => none }
def fuseDoesRow : OpenClaim := { program := "ythhgobiaecehbaadoor", sum := "71f4b254237651ac9eb5d9a62ad0bcc29434cc3758af5910e356090b3bec0c3e", func := "epitome/epitomelaw10.FuseDoes", spec := "fuseDoes", unfollowed := true, recurses := true, named := ["epitome/span.kinds", "unicode/utf8.first", "unicode/utf8.acceptRanges"], apart := false, laid := [("unicode/utf8.acceptRanges", laid_unicode_utf8_acceptRanges), ("epitome/span.kinds", laid_epitome_span_kinds), ("unicode/utf8.first", laid_unicode_utf8_first)] }
def FuseDoesSaid : Prop := fuseDoesRow.holds Tryd.pinned (OpenSpec.ofChange fuseDoesSpec)

/-- ITS FALSE NEIGHBOUR: 'it returns false'. Refute it at one input. -/
def fuseDoesWrong : ChangeSpec := { name := "fuseDoes", fn := fun _ => fun
  | [d1, d2] => { results := [.lit (.bool false)], args := [d1, d2] }
  | _ => none }
def FuseDoesWrongFalsely : Prop := fuseDoesRow.holds Tryd.pinned (OpenSpec.ofChange fuseDoesWrong)

/-- 'epitomelaw13.ThroughAll': WHATEVER THE INPUT: true; the input reads as it did. -/
def throughAllSpec : ChangeSpec := { name := "throughAll", fn := fun _ => fun
  | [d1, d2, d3] => { results := [.lit (.bool true)], args := [d1, d2, d3] }
  | _ => none }
def throughAllRow : OpenClaim := { program := "ythhgobiaecehbaadoor", sum := "71f4b254237651ac9eb5d9a62ad0bcc29434cc3758af5910e356090b3bec0c3e", func := "epitome/epitomelaw13.ThroughAll", spec := "throughAll", unfollowed := true, recurses := true, named := ["epitome/span.kinds", "unicode/utf8.first", "unicode/utf8.acceptRanges"], apart := false, laid := [("unicode/utf8.acceptRanges", laid_unicode_utf8_acceptRanges), ("epitome/span.kinds", laid_epitome_span_kinds), ("unicode/utf8.first", laid_unicode_utf8_first)] }
def ThroughAllSaid : Prop := throughAllRow.holds Tryd.pinned (OpenSpec.ofChange throughAllSpec)

/-- ITS FALSE NEIGHBOUR: 'it returns false'. Refute it at one input. -/
def throughAllWrong : ChangeSpec := { name := "throughAll", fn := fun _ => fun
  | [d1, d2, d3] => { results := [.lit (.bool false)], args := [d1, d2, d3] }
  | _ => none }
def ThroughAllWrongFalsely : Prop := throughAllRow.holds Tryd.pinned (OpenSpec.ofChange throughAllWrong)

/-- 'epitomelaw13.ThroughParts': WHATEVER THE INPUT: true; the input reads as it did. -/
def throughPartsSpec : ChangeSpec := { name := "throughParts", fn := fun _ => fun
  | [d1, d2, d3] => { results := [.lit (.bool true)], args := [d1, d2, d3] }
  | _ => none }
def throughPartsRow : OpenClaim := { program := "ythhgobiaecehbaadoor", sum := "71f4b254237651ac9eb5d9a62ad0bcc29434cc3758af5910e356090b3bec0c3e", func := "epitome/epitomelaw13.ThroughParts", spec := "throughParts", unfollowed := true, recurses := true, named := ["epitome/span.kinds", "unicode/utf8.first", "unicode/utf8.acceptRanges"], apart := false, laid := [("unicode/utf8.acceptRanges", laid_unicode_utf8_acceptRanges), ("epitome/span.kinds", laid_epitome_span_kinds), ("unicode/utf8.first", laid_unicode_utf8_first)] }
def ThroughPartsSaid : Prop := throughPartsRow.holds Tryd.pinned (OpenSpec.ofChange throughPartsSpec)

/-- ITS FALSE NEIGHBOUR: 'it returns false'. Refute it at one input. -/
def throughPartsWrong : ChangeSpec := { name := "throughParts", fn := fun _ => fun
  | [d1, d2, d3] => { results := [.lit (.bool false)], args := [d1, d2, d3] }
  | _ => none }
def ThroughPartsWrongFalsely : Prop := throughPartsRow.holds Tryd.pinned (OpenSpec.ofChange throughPartsWrong)

/-- 'epitomelaw13.ThroughNone': WHATEVER THE INPUT: true; the input reads as it did. -/
def throughNoneSpec : ChangeSpec := { name := "throughNone", fn := fun _ => fun
  | [d1, d2, d3] => { results := [.lit (.bool true)], args := [d1, d2, d3] }
  | _ => none }
def throughNoneRow : OpenClaim := { program := "ythhgobiaecehbaadoor", sum := "71f4b254237651ac9eb5d9a62ad0bcc29434cc3758af5910e356090b3bec0c3e", func := "epitome/epitomelaw13.ThroughNone", spec := "throughNone", unfollowed := true, recurses := true, named := ["epitome/span.kinds", "unicode/utf8.first", "unicode/utf8.acceptRanges"], apart := false, laid := [("unicode/utf8.acceptRanges", laid_unicode_utf8_acceptRanges), ("epitome/span.kinds", laid_epitome_span_kinds), ("unicode/utf8.first", laid_unicode_utf8_first)] }
def ThroughNoneSaid : Prop := throughNoneRow.holds Tryd.pinned (OpenSpec.ofChange throughNoneSpec)

/-- ITS FALSE NEIGHBOUR: 'it returns false'. Refute it at one input. -/
def throughNoneWrong : ChangeSpec := { name := "throughNone", fn := fun _ => fun
  | [d1, d2, d3] => { results := [.lit (.bool false)], args := [d1, d2, d3] }
  | _ => none }
def ThroughNoneWrongFalsely : Prop := throughNoneRow.holds Tryd.pinned (OpenSpec.ofChange throughNoneWrong)

/-- 'epitomelaw13.ThroughSteps': WHATEVER THE INPUT: true; the input reads as it did. -/
def throughStepsSpec : ChangeSpec := { name := "throughSteps", fn := fun _ => fun
  | [d1, d2, d3] => { results := [.lit (.bool true)], args := [d1, d2, d3] }
  | _ => none }
def throughStepsRow : OpenClaim := { program := "ythhgobiaecehbaadoor", sum := "71f4b254237651ac9eb5d9a62ad0bcc29434cc3758af5910e356090b3bec0c3e", func := "epitome/epitomelaw13.ThroughSteps", spec := "throughSteps", unfollowed := true, recurses := true, named := ["epitome/span.kinds", "unicode/utf8.first", "unicode/utf8.acceptRanges"], apart := false, laid := [("unicode/utf8.acceptRanges", laid_unicode_utf8_acceptRanges), ("epitome/span.kinds", laid_epitome_span_kinds), ("unicode/utf8.first", laid_unicode_utf8_first)] }
def ThroughStepsSaid : Prop := throughStepsRow.holds Tryd.pinned (OpenSpec.ofChange throughStepsSpec)

/-- ITS FALSE NEIGHBOUR: 'it returns false'. Refute it at one input. -/
def throughStepsWrong : ChangeSpec := { name := "throughSteps", fn := fun _ => fun
  | [d1, d2, d3] => { results := [.lit (.bool false)], args := [d1, d2, d3] }
  | _ => none }
def ThroughStepsWrongFalsely : Prop := throughStepsRow.holds Tryd.pinned (OpenSpec.ofChange throughStepsWrong)

/-- 'epitomelaw13.ThroughMeets': WHATEVER THE INPUT: true; the input reads as it did. -/
def throughMeetsSpec : ChangeSpec := { name := "throughMeets", fn := fun _ => fun
  | [d1, d2, d3] => { results := [.lit (.bool true)], args := [d1, d2, d3] }
  | _ => none }
def throughMeetsRow : OpenClaim := { program := "ythhgobiaecehbaadoor", sum := "71f4b254237651ac9eb5d9a62ad0bcc29434cc3758af5910e356090b3bec0c3e", func := "epitome/epitomelaw13.ThroughMeets", spec := "throughMeets", unfollowed := true, recurses := true, named := ["epitome/span.kinds", "unicode/utf8.first", "unicode/utf8.acceptRanges"], apart := false, laid := [("unicode/utf8.acceptRanges", laid_unicode_utf8_acceptRanges), ("epitome/span.kinds", laid_epitome_span_kinds), ("unicode/utf8.first", laid_unicode_utf8_first)] }
def ThroughMeetsSaid : Prop := throughMeetsRow.holds Tryd.pinned (OpenSpec.ofChange throughMeetsSpec)

/-- ITS FALSE NEIGHBOUR: 'it returns false'. Refute it at one input. -/
def throughMeetsWrong : ChangeSpec := { name := "throughMeets", fn := fun _ => fun
  | [d1, d2, d3] => { results := [.lit (.bool false)], args := [d1, d2, d3] }
  | _ => none }
def ThroughMeetsWrongFalsely : Prop := throughMeetsRow.holds Tryd.pinned (OpenSpec.ofChange throughMeetsWrong)

/- THE SECOND FORM. 'bulk': how many values and letters a reading holds, each counted each time it is reached (what is shared counts as often as it is met; a slice's spare places count too). A statement '..UptoSaid' is the law's where the arguments, and the package variables that the reading takes, are together of bulk at most 1048576: NARROWER than '..Said'. Prove '..Said' where nothing that the law and all that it calls make is longer than what came in: it says more and counts as full. Else prove '..UptoSaid'. A law counts once. -/
mutual
def uptoBulk {H : Type} : DataW H → Nat
  | .lit (.string bytes) => bytes.length + 1
  | .lit _ => 1
  | .nil => 1
  | .ptr d => uptoBulk d + 1
  | .slice elems spare => uptoBulkAll elems + uptoBulkAll spare + 1
  | .agg parts => uptoBulkAll parts + 1
  | .iface _ d => uptoBulk d + 1
  | .map entries => uptoBulkEntries entries + 1
  | .held _ => 1
def uptoBulkAll {H : Type} : List (DataW H) → Nat
  | [] => 0
  | d :: r => uptoBulk d + uptoBulkAll r
def uptoBulkEntries {H : Type} : List (Lit × DataW H) → Nat
  | [] => 0
  | x :: r => uptoBulkEntry x + uptoBulkEntries r
def uptoBulkEntry {H : Type} : Lit × DataW H → Nat
  | (.string bytes, d) => bytes.length + uptoBulk d + 1
  | (_, d) => uptoBulk d + 1
 end
def uptoSmall : (H : Type) → List (DataW H) → Bool := fun _ ds => decide (uptoBulkAll ds ≤ 1048576)
def OpenSpec.upto (s : _root_.Go.ChangeSpec) : _root_.Go.OpenSpec := { _root_.Go.OpenSpec.ofChange s with cond := some uptoSmall }

/-- 'epitomelaw10.FuseAll', WHERE WHAT IT READS IS OF BULK AT MOST 1048576: true; the input reads as it did. -/
def fuseAllUptoRow : OpenClaim := { program := "ythhgobiaecehbaadoor", sum := "71f4b254237651ac9eb5d9a62ad0bcc29434cc3758af5910e356090b3bec0c3e", func := "epitome/epitomelaw10.FuseAll", spec := "fuseAll", unfollowed := true, recurses := true, named := ["epitome/span.kinds", "unicode/utf8.first", "unicode/utf8.acceptRanges"], apart := false, laid := [("unicode/utf8.acceptRanges", laid_unicode_utf8_acceptRanges), ("epitome/span.kinds", laid_epitome_span_kinds), ("unicode/utf8.first", laid_unicode_utf8_first)], narrowed := true }
def FuseAllUptoSaid : Prop := fuseAllUptoRow.holds Tryd.pinned (OpenSpec.upto fuseAllSpec)

/-- 'epitomelaw10.FuseParts', WHERE WHAT IT READS IS OF BULK AT MOST 1048576: true; the input reads as it did. -/
def fusePartsUptoRow : OpenClaim := { program := "ythhgobiaecehbaadoor", sum := "71f4b254237651ac9eb5d9a62ad0bcc29434cc3758af5910e356090b3bec0c3e", func := "epitome/epitomelaw10.FuseParts", spec := "fuseParts", unfollowed := true, recurses := true, named := ["epitome/span.kinds", "unicode/utf8.first", "unicode/utf8.acceptRanges"], apart := false, laid := [("unicode/utf8.acceptRanges", laid_unicode_utf8_acceptRanges), ("epitome/span.kinds", laid_epitome_span_kinds), ("unicode/utf8.first", laid_unicode_utf8_first)], narrowed := true }
def FusePartsUptoSaid : Prop := fusePartsUptoRow.holds Tryd.pinned (OpenSpec.upto fusePartsSpec)

/-- 'epitomelaw10.FuseCancels', WHERE WHAT IT READS IS OF BULK AT MOST 1048576: true; the input reads as it did. -/
def fuseCancelsUptoRow : OpenClaim := { program := "ythhgobiaecehbaadoor", sum := "71f4b254237651ac9eb5d9a62ad0bcc29434cc3758af5910e356090b3bec0c3e", func := "epitome/epitomelaw10.FuseCancels", spec := "fuseCancels", unfollowed := true, recurses := true, named := ["epitome/span.kinds", "unicode/utf8.first", "unicode/utf8.acceptRanges"], apart := false, laid := [("unicode/utf8.acceptRanges", laid_unicode_utf8_acceptRanges), ("epitome/span.kinds", laid_epitome_span_kinds), ("unicode/utf8.first", laid_unicode_utf8_first)], narrowed := true }
def FuseCancelsUptoSaid : Prop := fuseCancelsUptoRow.holds Tryd.pinned (OpenSpec.upto fuseCancelsSpec)

/-- 'epitomelaw10.FuseOne', WHERE WHAT IT READS IS OF BULK AT MOST 1048576: true; the input reads as it did. -/
def fuseOneUptoRow : OpenClaim := { program := "ythhgobiaecehbaadoor", sum := "71f4b254237651ac9eb5d9a62ad0bcc29434cc3758af5910e356090b3bec0c3e", func := "epitome/epitomelaw10.FuseOne", spec := "fuseOne", unfollowed := true, recurses := true, named := ["epitome/span.kinds", "unicode/utf8.first", "unicode/utf8.acceptRanges"], apart := false, laid := [("unicode/utf8.acceptRanges", laid_unicode_utf8_acceptRanges), ("epitome/span.kinds", laid_epitome_span_kinds), ("unicode/utf8.first", laid_unicode_utf8_first)], narrowed := true }
def FuseOneUptoSaid : Prop := fuseOneUptoRow.holds Tryd.pinned (OpenSpec.upto fuseOneSpec)

/-- 'epitomelaw10.FuseFirst', WHERE WHAT IT READS IS OF BULK AT MOST 1048576: true; the input reads as it did. -/
def fuseFirstUptoRow : OpenClaim := { program := "ythhgobiaecehbaadoor", sum := "71f4b254237651ac9eb5d9a62ad0bcc29434cc3758af5910e356090b3bec0c3e", func := "epitome/epitomelaw10.FuseFirst", spec := "fuseFirst", unfollowed := true, recurses := true, named := ["epitome/span.kinds", "unicode/utf8.first", "unicode/utf8.acceptRanges"], apart := false, laid := [("unicode/utf8.acceptRanges", laid_unicode_utf8_acceptRanges), ("epitome/span.kinds", laid_epitome_span_kinds), ("unicode/utf8.first", laid_unicode_utf8_first)], narrowed := true }
def FuseFirstUptoSaid : Prop := fuseFirstUptoRow.holds Tryd.pinned (OpenSpec.upto fuseFirstSpec)

/-- 'epitomelaw10.FuseDoes', WHERE WHAT IT READS IS OF BULK AT MOST 1048576: true; the input reads as it did. -/
def fuseDoesUptoRow : OpenClaim := { program := "ythhgobiaecehbaadoor", sum := "71f4b254237651ac9eb5d9a62ad0bcc29434cc3758af5910e356090b3bec0c3e", func := "epitome/epitomelaw10.FuseDoes", spec := "fuseDoes", unfollowed := true, recurses := true, named := ["epitome/span.kinds", "unicode/utf8.first", "unicode/utf8.acceptRanges"], apart := false, laid := [("unicode/utf8.acceptRanges", laid_unicode_utf8_acceptRanges), ("epitome/span.kinds", laid_epitome_span_kinds), ("unicode/utf8.first", laid_unicode_utf8_first)], narrowed := true }
def FuseDoesUptoSaid : Prop := fuseDoesUptoRow.holds Tryd.pinned (OpenSpec.upto fuseDoesSpec)

/-- 'epitomelaw13.ThroughAll', WHERE WHAT IT READS IS OF BULK AT MOST 1048576: true; the input reads as it did. -/
def throughAllUptoRow : OpenClaim := { program := "ythhgobiaecehbaadoor", sum := "71f4b254237651ac9eb5d9a62ad0bcc29434cc3758af5910e356090b3bec0c3e", func := "epitome/epitomelaw13.ThroughAll", spec := "throughAll", unfollowed := true, recurses := true, named := ["epitome/span.kinds", "unicode/utf8.first", "unicode/utf8.acceptRanges"], apart := false, laid := [("unicode/utf8.acceptRanges", laid_unicode_utf8_acceptRanges), ("epitome/span.kinds", laid_epitome_span_kinds), ("unicode/utf8.first", laid_unicode_utf8_first)], narrowed := true }
def ThroughAllUptoSaid : Prop := throughAllUptoRow.holds Tryd.pinned (OpenSpec.upto throughAllSpec)

/-- 'epitomelaw13.ThroughParts', WHERE WHAT IT READS IS OF BULK AT MOST 1048576: true; the input reads as it did. -/
def throughPartsUptoRow : OpenClaim := { program := "ythhgobiaecehbaadoor", sum := "71f4b254237651ac9eb5d9a62ad0bcc29434cc3758af5910e356090b3bec0c3e", func := "epitome/epitomelaw13.ThroughParts", spec := "throughParts", unfollowed := true, recurses := true, named := ["epitome/span.kinds", "unicode/utf8.first", "unicode/utf8.acceptRanges"], apart := false, laid := [("unicode/utf8.acceptRanges", laid_unicode_utf8_acceptRanges), ("epitome/span.kinds", laid_epitome_span_kinds), ("unicode/utf8.first", laid_unicode_utf8_first)], narrowed := true }
def ThroughPartsUptoSaid : Prop := throughPartsUptoRow.holds Tryd.pinned (OpenSpec.upto throughPartsSpec)

/-- 'epitomelaw13.ThroughNone', WHERE WHAT IT READS IS OF BULK AT MOST 1048576: true; the input reads as it did. -/
def throughNoneUptoRow : OpenClaim := { program := "ythhgobiaecehbaadoor", sum := "71f4b254237651ac9eb5d9a62ad0bcc29434cc3758af5910e356090b3bec0c3e", func := "epitome/epitomelaw13.ThroughNone", spec := "throughNone", unfollowed := true, recurses := true, named := ["epitome/span.kinds", "unicode/utf8.first", "unicode/utf8.acceptRanges"], apart := false, laid := [("unicode/utf8.acceptRanges", laid_unicode_utf8_acceptRanges), ("epitome/span.kinds", laid_epitome_span_kinds), ("unicode/utf8.first", laid_unicode_utf8_first)], narrowed := true }
def ThroughNoneUptoSaid : Prop := throughNoneUptoRow.holds Tryd.pinned (OpenSpec.upto throughNoneSpec)

/-- 'epitomelaw13.ThroughSteps', WHERE WHAT IT READS IS OF BULK AT MOST 1048576: true; the input reads as it did. -/
def throughStepsUptoRow : OpenClaim := { program := "ythhgobiaecehbaadoor", sum := "71f4b254237651ac9eb5d9a62ad0bcc29434cc3758af5910e356090b3bec0c3e", func := "epitome/epitomelaw13.ThroughSteps", spec := "throughSteps", unfollowed := true, recurses := true, named := ["epitome/span.kinds", "unicode/utf8.first", "unicode/utf8.acceptRanges"], apart := false, laid := [("unicode/utf8.acceptRanges", laid_unicode_utf8_acceptRanges), ("epitome/span.kinds", laid_epitome_span_kinds), ("unicode/utf8.first", laid_unicode_utf8_first)], narrowed := true }
def ThroughStepsUptoSaid : Prop := throughStepsUptoRow.holds Tryd.pinned (OpenSpec.upto throughStepsSpec)

/-- 'epitomelaw13.ThroughMeets', WHERE WHAT IT READS IS OF BULK AT MOST 1048576: true; the input reads as it did. -/
def throughMeetsUptoRow : OpenClaim := { program := "ythhgobiaecehbaadoor", sum := "71f4b254237651ac9eb5d9a62ad0bcc29434cc3758af5910e356090b3bec0c3e", func := "epitome/epitomelaw13.ThroughMeets", spec := "throughMeets", unfollowed := true, recurses := true, named := ["epitome/span.kinds", "unicode/utf8.first", "unicode/utf8.acceptRanges"], apart := false, laid := [("unicode/utf8.acceptRanges", laid_unicode_utf8_acceptRanges), ("epitome/span.kinds", laid_epitome_span_kinds), ("unicode/utf8.first", laid_unicode_utf8_first)], narrowed := true }
def ThroughMeetsUptoSaid : Prop := throughMeetsUptoRow.holds Tryd.pinned (OpenSpec.upto throughMeetsSpec)

end Rows
end Go.Proofs.YthhgobiaecehbaaDoor
