/-
  NARROWER THAN 'FOR EVERY INPUT', by the rows' own cells (each row's printed sentence says how): ComposeGaps: laid · ComposeAll: laid · OverGaps: laid · GapsJoin: laid · ThroughAll: laid · PlaceGaps: laid.
  DERIVED. THE GIVEN ROWS OF THIS SEAT. 6 by the template 'for every input the law returns true; each argument reads behind the call as it read before'; 0 by the template 'total and deterministic' (their statements: YtekjfodfedpioaaDoorTotals.lean).
  GIVEN WITH THE SEED: the statements are not yours to turn. If you find one false, say at which input.
  Laid BY PROGRAM, IN A SANDBOX (cutbox-rows.mjs): the forced cells as the released guide's own fill.sh prints them over the translation 1a5f3746b49e633b… (all of the seat's roots in one cut). By AI agents, Wed Nov 11 2026. No macro, syntax, notation, axiom, sorry.
-/
import Derived.Test.YtekjfodfedpioaaDoorChecked
import GoSem.PinnedTables
import GoSem.Claim
import GoSem.ClaimJoined
import GoSem.ClaimMapViews
import Derived.JoinedTies
import Derived.KernelRfl
namespace Go.Proofs.YtekjfodfedpioaaDoor
/- THE CELL 'sum', in the pinned program and in every row, IS THE sha256 OF THE DUMP (.gsa) THAT YtekjfodfedpioaaDoorProg.lean LOADS. Nothing in Lean hashes anything: it is a label: what it is worth is what the hold of that sum in a sandbox is worth. -/
noncomputable def Tryd.pinned : Pinned := { name := "ytekjfodfedpioaadoor", sum := "1a5f3746b49e633ba017973e52cb79dea9a4ec2e5b001432213eebb7b422850e", checked := Tryd.checked }
namespace Rows
def none {H : Type} : Left H := { results := [], args := [] }

/- WHAT THE LISTED PACKAGE-LEVEL VARIABLES READ AS WHEN THE CALL BEGINS. Each datum BY PROGRAM (the guide's laid-datum.mjs) off the statement by which the dump's own 'gosem.cut.vars' lays the variable. In a bare row this is a premise. The card (YtekjfodfedpioaaDoorCards.lean) ties it to the program's text. -/
def laid_unicode_utf8_acceptRanges {H : Type} : DataW H := .agg [.agg [.lit (.int .u8 128), .lit (.int .u8 191)], .agg [.lit (.int .u8 160), .lit (.int .u8 191)], .agg [.lit (.int .u8 128), .lit (.int .u8 159)], .agg [.lit (.int .u8 144), .lit (.int .u8 191)], .agg [.lit (.int .u8 128), .lit (.int .u8 143)], .agg [.lit (.int .u8 0), .lit (.int .u8 0)], .agg [.lit (.int .u8 0), .lit (.int .u8 0)], .agg [.lit (.int .u8 0), .lit (.int .u8 0)], .agg [.lit (.int .u8 0), .lit (.int .u8 0)], .agg [.lit (.int .u8 0), .lit (.int .u8 0)], .agg [.lit (.int .u8 0), .lit (.int .u8 0)], .agg [.lit (.int .u8 0), .lit (.int .u8 0)], .agg [.lit (.int .u8 0), .lit (.int .u8 0)], .agg [.lit (.int .u8 0), .lit (.int .u8 0)], .agg [.lit (.int .u8 0), .lit (.int .u8 0)], .agg [.lit (.int .u8 0), .lit (.int .u8 0)]]
def laid_epitome_span_kinds {H : Type} : DataW H := .agg [.agg [.lit (.bool false), .lit (.bool false)], .agg [.lit (.bool true), .lit (.bool true)], .agg [.lit (.bool false), .lit (.bool false)], .agg [.lit (.bool true), .lit (.bool false)]]
/-- One of Go's own tables, pinned by name: the form's constant. -/
def laid_unicode_utf8_first : DataW Unit := Go.Pinned.utf8First

/-- 'epitomelaw09.ComposeGaps': WHATEVER THE INPUT: true; the input reads as it did. -/
def composeGapsSpec : ChangeSpec := { name := "composeGaps", fn := fun _ => fun
  | [d1, d2, d3] => { results := [.lit (.bool true)], args := [d1, d2, d3] }
  | _ => none }
def composeGapsRow : OpenClaim := { program := "ytekjfodfedpioaadoor", sum := "1a5f3746b49e633ba017973e52cb79dea9a4ec2e5b001432213eebb7b422850e", func := "epitome/epitomelaw09.ComposeGaps", spec := "composeGaps", unfollowed := true, recurses := true, named := ["epitome/span.kinds", "unicode/utf8.first", "unicode/utf8.acceptRanges"], apart := false, laid := [("unicode/utf8.acceptRanges", laid_unicode_utf8_acceptRanges), ("epitome/span.kinds", laid_epitome_span_kinds), ("unicode/utf8.first", laid_unicode_utf8_first)] }
def ComposeGapsSaid : Prop := composeGapsRow.holds Tryd.pinned (OpenSpec.ofChange composeGapsSpec)

/-- ITS FALSE NEIGHBOUR: 'it returns false'. Refute it at one input. -/
def composeGapsWrong : ChangeSpec := { name := "composeGaps", fn := fun _ => fun
  | [d1, d2, d3] => { results := [.lit (.bool false)], args := [d1, d2, d3] }
  | _ => none }
def ComposeGapsWrongFalsely : Prop := composeGapsRow.holds Tryd.pinned (OpenSpec.ofChange composeGapsWrong)

/-- 'epitomelaw09.ComposeAll': WHATEVER THE INPUT: true; the input reads as it did. -/
def composeAllSpec : ChangeSpec := { name := "composeAll", fn := fun _ => fun
  | [d1, d2, d3] => { results := [.lit (.bool true)], args := [d1, d2, d3] }
  | _ => none }
def composeAllRow : OpenClaim := { program := "ytekjfodfedpioaadoor", sum := "1a5f3746b49e633ba017973e52cb79dea9a4ec2e5b001432213eebb7b422850e", func := "epitome/epitomelaw09.ComposeAll", spec := "composeAll", unfollowed := true, recurses := true, named := ["epitome/span.kinds", "unicode/utf8.first", "unicode/utf8.acceptRanges"], apart := false, laid := [("unicode/utf8.acceptRanges", laid_unicode_utf8_acceptRanges), ("epitome/span.kinds", laid_epitome_span_kinds), ("unicode/utf8.first", laid_unicode_utf8_first)] }
def ComposeAllSaid : Prop := composeAllRow.holds Tryd.pinned (OpenSpec.ofChange composeAllSpec)

/-- ITS FALSE NEIGHBOUR: 'it returns false'. Refute it at one input. -/
def composeAllWrong : ChangeSpec := { name := "composeAll", fn := fun _ => fun
  | [d1, d2, d3] => { results := [.lit (.bool false)], args := [d1, d2, d3] }
  | _ => none }
def ComposeAllWrongFalsely : Prop := composeAllRow.holds Tryd.pinned (OpenSpec.ofChange composeAllWrong)

/-- 'epitomelaw11.OverGaps': WHATEVER THE INPUT: true; the input reads as it did. -/
def overGapsSpec : ChangeSpec := { name := "overGaps", fn := fun _ => fun
  | [d1, d2, d3] => { results := [.lit (.bool true)], args := [d1, d2, d3] }
  | _ => none }
def overGapsRow : OpenClaim := { program := "ytekjfodfedpioaadoor", sum := "1a5f3746b49e633ba017973e52cb79dea9a4ec2e5b001432213eebb7b422850e", func := "epitome/epitomelaw11.OverGaps", spec := "overGaps", unfollowed := true, recurses := true, named := ["epitome/span.kinds", "unicode/utf8.first", "unicode/utf8.acceptRanges"], apart := false, laid := [("unicode/utf8.acceptRanges", laid_unicode_utf8_acceptRanges), ("epitome/span.kinds", laid_epitome_span_kinds), ("unicode/utf8.first", laid_unicode_utf8_first)] }
def OverGapsSaid : Prop := overGapsRow.holds Tryd.pinned (OpenSpec.ofChange overGapsSpec)

/-- ITS FALSE NEIGHBOUR: 'it returns false'. Refute it at one input. -/
def overGapsWrong : ChangeSpec := { name := "overGaps", fn := fun _ => fun
  | [d1, d2, d3] => { results := [.lit (.bool false)], args := [d1, d2, d3] }
  | _ => none }
def OverGapsWrongFalsely : Prop := overGapsRow.holds Tryd.pinned (OpenSpec.ofChange overGapsWrong)

/-- 'epitomelaw06.GapsJoin': WHATEVER THE INPUT: true; the input reads as it did. -/
def gapsJoinSpec : ChangeSpec := { name := "gapsJoin", fn := fun _ => fun
  | [d1, d2, d3] => { results := [.lit (.bool true)], args := [d1, d2, d3] }
  | _ => none }
def gapsJoinRow : OpenClaim := { program := "ytekjfodfedpioaadoor", sum := "1a5f3746b49e633ba017973e52cb79dea9a4ec2e5b001432213eebb7b422850e", func := "epitome/epitomelaw06.GapsJoin", spec := "gapsJoin", unfollowed := true, recurses := true, named := ["epitome/span.kinds", "unicode/utf8.first", "unicode/utf8.acceptRanges"], apart := false, laid := [("unicode/utf8.acceptRanges", laid_unicode_utf8_acceptRanges), ("epitome/span.kinds", laid_epitome_span_kinds), ("unicode/utf8.first", laid_unicode_utf8_first)] }
def GapsJoinSaid : Prop := gapsJoinRow.holds Tryd.pinned (OpenSpec.ofChange gapsJoinSpec)

/-- ITS FALSE NEIGHBOUR: 'it returns false'. Refute it at one input. -/
def gapsJoinWrong : ChangeSpec := { name := "gapsJoin", fn := fun _ => fun
  | [d1, d2, d3] => { results := [.lit (.bool false)], args := [d1, d2, d3] }
  | _ => none }
def GapsJoinWrongFalsely : Prop := gapsJoinRow.holds Tryd.pinned (OpenSpec.ofChange gapsJoinWrong)

/-- 'epitomelaw13.ThroughAll': WHATEVER THE INPUT: true; the input reads as it did. -/
def throughAllSpec : ChangeSpec := { name := "throughAll", fn := fun _ => fun
  | [d1, d2, d3] => { results := [.lit (.bool true)], args := [d1, d2, d3] }
  | _ => none }
def throughAllRow : OpenClaim := { program := "ytekjfodfedpioaadoor", sum := "1a5f3746b49e633ba017973e52cb79dea9a4ec2e5b001432213eebb7b422850e", func := "epitome/epitomelaw13.ThroughAll", spec := "throughAll", unfollowed := true, recurses := true, named := ["epitome/span.kinds", "unicode/utf8.first", "unicode/utf8.acceptRanges"], apart := false, laid := [("unicode/utf8.acceptRanges", laid_unicode_utf8_acceptRanges), ("epitome/span.kinds", laid_epitome_span_kinds), ("unicode/utf8.first", laid_unicode_utf8_first)] }
def ThroughAllSaid : Prop := throughAllRow.holds Tryd.pinned (OpenSpec.ofChange throughAllSpec)

/-- ITS FALSE NEIGHBOUR: 'it returns false'. Refute it at one input. -/
def throughAllWrong : ChangeSpec := { name := "throughAll", fn := fun _ => fun
  | [d1, d2, d3] => { results := [.lit (.bool false)], args := [d1, d2, d3] }
  | _ => none }
def ThroughAllWrongFalsely : Prop := throughAllRow.holds Tryd.pinned (OpenSpec.ofChange throughAllWrong)

/-- 'epitomelaw08.PlaceGaps': WHATEVER THE INPUT: true; the input reads as it did. -/
def placeGapsSpec : ChangeSpec := { name := "placeGaps", fn := fun _ => fun
  | [d1, d2] => { results := [.lit (.bool true)], args := [d1, d2] }
  | _ => none }
def placeGapsRow : OpenClaim := { program := "ytekjfodfedpioaadoor", sum := "1a5f3746b49e633ba017973e52cb79dea9a4ec2e5b001432213eebb7b422850e", func := "epitome/epitomelaw08.PlaceGaps", spec := "placeGaps", unfollowed := true, recurses := true, named := ["epitome/span.kinds", "unicode/utf8.first", "unicode/utf8.acceptRanges"], apart := false, laid := [("unicode/utf8.acceptRanges", laid_unicode_utf8_acceptRanges), ("epitome/span.kinds", laid_epitome_span_kinds), ("unicode/utf8.first", laid_unicode_utf8_first)] }
def PlaceGapsSaid : Prop := placeGapsRow.holds Tryd.pinned (OpenSpec.ofChange placeGapsSpec)

/-- ITS FALSE NEIGHBOUR: 'it returns false'. Refute it at one input. -/
def placeGapsWrong : ChangeSpec := { name := "placeGaps", fn := fun _ => fun
  | [d1, d2] => { results := [.lit (.bool false)], args := [d1, d2] }
  | _ => none }
def PlaceGapsWrongFalsely : Prop := placeGapsRow.holds Tryd.pinned (OpenSpec.ofChange placeGapsWrong)

/- THE SECOND FORM. 'bulk': how many values and letters a reading holds, each counted each time it is reached (what is shared counts as often as it is met; a slice's spare places count too). A statement '..UptoSaid' is the law's where the arguments, and the package variables that the reading takes, are together of bulk at most 1048576: NARROWER than '..Said'. Prove '..Said' where nothing that the law and all that it calls make is longer than what came in: it says more and counts as full. Else prove '..UptoSaid'. A law counts once. -/
mutual
def uptoBulk {H : Type} : DataW H → Nat
  | .lit (.string bytes) => bytes.length + 1
  | .lit _ => 1
  | .nil => 1
  | .ptr d => uptoBulk d + 1
  | .slice elems spare => uptoBulkAll elems + uptoBulkAll spare + 1
  | .agg parts => uptoBulkAll parts + 1
  | .iface _ d => uptoBulk d + 1
  | .map entries => uptoBulkEntries entries + 1
  | .held _ => 1
def uptoBulkAll {H : Type} : List (DataW H) → Nat
  | [] => 0
  | d :: r => uptoBulk d + uptoBulkAll r
def uptoBulkEntries {H : Type} : List (Lit × DataW H) → Nat
  | [] => 0
  | x :: r => uptoBulkEntry x + uptoBulkEntries r
def uptoBulkEntry {H : Type} : Lit × DataW H → Nat
  | (.string bytes, d) => bytes.length + uptoBulk d + 1
  | (_, d) => uptoBulk d + 1
 end
def uptoSmall : (H : Type) → List (DataW H) → Bool := fun _ ds => decide (uptoBulkAll ds ≤ 1048576)
def OpenSpec.upto (s : _root_.Go.ChangeSpec) : _root_.Go.OpenSpec := { _root_.Go.OpenSpec.ofChange s with cond := some uptoSmall }

/-- 'epitomelaw09.ComposeGaps', WHERE WHAT IT READS IS OF BULK AT MOST 1048576: true; the input reads as it did. -/
def composeGapsUptoRow : OpenClaim := { program := "ytekjfodfedpioaadoor", sum := "1a5f3746b49e633ba017973e52cb79dea9a4ec2e5b001432213eebb7b422850e", func := "epitome/epitomelaw09.ComposeGaps", spec := "composeGaps", unfollowed := true, recurses := true, named := ["epitome/span.kinds", "unicode/utf8.first", "unicode/utf8.acceptRanges"], apart := false, laid := [("unicode/utf8.acceptRanges", laid_unicode_utf8_acceptRanges), ("epitome/span.kinds", laid_epitome_span_kinds), ("unicode/utf8.first", laid_unicode_utf8_first)], narrowed := true }
def ComposeGapsUptoSaid : Prop := composeGapsUptoRow.holds Tryd.pinned (OpenSpec.upto composeGapsSpec)

/-- 'epitomelaw09.ComposeAll', WHERE WHAT IT READS IS OF BULK AT MOST 1048576: true; the input reads as it did. -/
def composeAllUptoRow : OpenClaim := { program := "ytekjfodfedpioaadoor", sum := "1a5f3746b49e633ba017973e52cb79dea9a4ec2e5b001432213eebb7b422850e", func := "epitome/epitomelaw09.ComposeAll", spec := "composeAll", unfollowed := true, recurses := true, named := ["epitome/span.kinds", "unicode/utf8.first", "unicode/utf8.acceptRanges"], apart := false, laid := [("unicode/utf8.acceptRanges", laid_unicode_utf8_acceptRanges), ("epitome/span.kinds", laid_epitome_span_kinds), ("unicode/utf8.first", laid_unicode_utf8_first)], narrowed := true }
def ComposeAllUptoSaid : Prop := composeAllUptoRow.holds Tryd.pinned (OpenSpec.upto composeAllSpec)

/-- 'epitomelaw11.OverGaps', WHERE WHAT IT READS IS OF BULK AT MOST 1048576: true; the input reads as it did. -/
def overGapsUptoRow : OpenClaim := { program := "ytekjfodfedpioaadoor", sum := "1a5f3746b49e633ba017973e52cb79dea9a4ec2e5b001432213eebb7b422850e", func := "epitome/epitomelaw11.OverGaps", spec := "overGaps", unfollowed := true, recurses := true, named := ["epitome/span.kinds", "unicode/utf8.first", "unicode/utf8.acceptRanges"], apart := false, laid := [("unicode/utf8.acceptRanges", laid_unicode_utf8_acceptRanges), ("epitome/span.kinds", laid_epitome_span_kinds), ("unicode/utf8.first", laid_unicode_utf8_first)], narrowed := true }
def OverGapsUptoSaid : Prop := overGapsUptoRow.holds Tryd.pinned (OpenSpec.upto overGapsSpec)

/-- 'epitomelaw06.GapsJoin', WHERE WHAT IT READS IS OF BULK AT MOST 1048576: true; the input reads as it did. -/
def gapsJoinUptoRow : OpenClaim := { program := "ytekjfodfedpioaadoor", sum := "1a5f3746b49e633ba017973e52cb79dea9a4ec2e5b001432213eebb7b422850e", func := "epitome/epitomelaw06.GapsJoin", spec := "gapsJoin", unfollowed := true, recurses := true, named := ["epitome/span.kinds", "unicode/utf8.first", "unicode/utf8.acceptRanges"], apart := false, laid := [("unicode/utf8.acceptRanges", laid_unicode_utf8_acceptRanges), ("epitome/span.kinds", laid_epitome_span_kinds), ("unicode/utf8.first", laid_unicode_utf8_first)], narrowed := true }
def GapsJoinUptoSaid : Prop := gapsJoinUptoRow.holds Tryd.pinned (OpenSpec.upto gapsJoinSpec)

/-- 'epitomelaw13.ThroughAll', WHERE WHAT IT READS IS OF BULK AT MOST 1048576: true; the input reads as it did. -/
def throughAllUptoRow : OpenClaim := { program := "ytekjfodfedpioaadoor", sum := "1a5f3746b49e633ba017973e52cb79dea9a4ec2e5b001432213eebb7b422850e", func := "epitome/epitomelaw13.ThroughAll", spec := "throughAll", unfollowed := true, recurses := true, named := ["epitome/span.kinds", "unicode/utf8.first", "unicode/utf8.acceptRanges"], apart := false, laid := [("unicode/utf8.acceptRanges", laid_unicode_utf8_acceptRanges), ("epitome/span.kinds", laid_epitome_span_kinds), ("unicode/utf8.first", laid_unicode_utf8_first)], narrowed := true }
def ThroughAllUptoSaid : Prop := throughAllUptoRow.holds Tryd.pinned (OpenSpec.upto throughAllSpec)

/-- 'epitomelaw08.PlaceGaps', WHERE WHAT IT READS IS OF BULK AT MOST 1048576: true; the input reads as it did. -/
def placeGapsUptoRow : OpenClaim := { program := "ytekjfodfedpioaadoor", sum := "1a5f3746b49e633ba017973e52cb79dea9a4ec2e5b001432213eebb7b422850e", func := "epitome/epitomelaw08.PlaceGaps", spec := "placeGaps", unfollowed := true, recurses := true, named := ["epitome/span.kinds", "unicode/utf8.first", "unicode/utf8.acceptRanges"], apart := false, laid := [("unicode/utf8.acceptRanges", laid_unicode_utf8_acceptRanges), ("epitome/span.kinds", laid_epitome_span_kinds), ("unicode/utf8.first", laid_unicode_utf8_first)], narrowed := true }
def PlaceGapsUptoSaid : Prop := placeGapsUptoRow.holds Tryd.pinned (OpenSpec.upto placeGapsSpec)

end Rows
end Go.Proofs.YtekjfodfedpioaaDoor
