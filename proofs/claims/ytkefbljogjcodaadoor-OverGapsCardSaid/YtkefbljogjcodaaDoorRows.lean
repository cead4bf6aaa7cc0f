/-
  NARROWER THAN 'FOR EVERY INPUT', by the rows' own cells (each row's printed sentence says how): UnderTie: laid · UnderAll: laid · UnderChain: laid · OverAll: laid · OverGaps: laid · ComposeAll: laid · PlaceGaps: laid · ApplyRow: laid · GapsOne: laid · GapsJoin: laid.
  DERIVED. THE GIVEN ROWS OF THIS SEAT. 10 by the template 'for every input the law returns true; each argument reads behind the call as it read before'; 0 by the template 'total and deterministic' (their statements: YtkefbljogjcodaaDoorTotals.lean).
  GIVEN WITH THE SEED: the statements are not yours to turn. If you find one false, say at which input.
  Laid BY PROGRAM, IN A SANDBOX (cutbox-rows.mjs): the forced cells as the released guide's own fill.sh prints them over the translation 536ec0696ce143ea… (all of the seat's roots in one cut). By AI agents, Wed Nov 11 2026. No macro, syntax, notation, axiom, sorry.
-/
import Derived.Test.YtkefbljogjcodaaDoorChecked
import GoSem.PinnedTables
import GoSem.Claim
import GoSem.ClaimJoined
import GoSem.ClaimMapViews
import Derived.JoinedTies
import Derived.KernelRfl
namespace Go.Proofs.YtkefbljogjcodaaDoor
/- THE CELL 'sum', in the pinned program and in every row, IS THE sha256 OF THE DUMP (.gsa) THAT YtkefbljogjcodaaDoorProg.lean LOADS. Nothing in Lean hashes anything: it is a label: what it is worth is what the hold of that sum in a sandbox is worth. -/
noncomputable def Tryd.pinned : Pinned := { name := "ytkefbljogjcodaadoor", sum := "536ec0696ce143eaf3fd6d3facf04ece50737324a4810194b154dbed9293f5d4", checked := Tryd.checked }
namespace Rows
def none {H : Type} : Left H := { results := [], args := [] }

/- WHAT THE LISTED PACKAGE-LEVEL VARIABLES READ AS WHEN THE CALL BEGINS. Each datum BY PROGRAM (the guide's laid-datum.mjs) off the statement by which the dump's own 'gosem.cut.vars' lays the variable. In a bare row this is a premise. The card (YtkefbljogjcodaaDoorCards.lean) ties it to the program's text. -/
def laid_unicode_utf8_acceptRanges {H : Type} : DataW H := .agg [.agg [.lit (.int .u8 128), .lit (.int .u8 191)], .agg [.lit (.int .u8 160), .lit (.int .u8 191)], .agg [.lit (.int .u8 128), .lit (.int .u8 159)], .agg [.lit (.int .u8 144), .lit (.int .u8 191)], .agg [.lit (.int .u8 128), .lit (.int .u8 143)], .agg [.lit (.int .u8 0), .lit (.int .u8 0)], .agg [.lit (.int .u8 0), .lit (.int .u8 0)], .agg [.lit (.int .u8 0), .lit (.int .u8 0)], .agg [.lit (.int .u8 0), .lit (.int .u8 0)], .agg [.lit (.int .u8 0), .lit (.int .u8 0)], .agg [.lit (.int .u8 0), .lit (.int .u8 0)], .agg [.lit (.int .u8 0), .lit (.int .u8 0)], .agg [.lit (.int .u8 0), .lit (.int .u8 0)], .agg [.lit (.int .u8 0), .lit (.int .u8 0)], .agg [.lit (.int .u8 0), .lit (.int .u8 0)], .agg [.lit (.int .u8 0), .lit (.int .u8 0)]]
def laid_epitome_span_kinds {H : Type} : DataW H := .agg [.agg [.lit (.bool false), .lit (.bool false)], .agg [.lit (.bool true), .lit (.bool true)], .agg [.lit (.bool false), .lit (.bool false)], .agg [.lit (.bool true), .lit (.bool false)]]
/-- One of Go's own tables, pinned by name: the form's constant. -/
def laid_unicode_utf8_first : DataW Unit := Go.Pinned.utf8First

/-- 'epitomelaw12.UnderTie': WHATEVER THE INPUT: true; the input reads as it did. -/
def underTieSpec : ChangeSpec := { name := "underTie", fn := fun _ => fun
  | [d1, d2, d3] => { results := [.lit (.bool true)], args := [d1, d2, d3] }
  | _ => none }
def underTieRow : OpenClaim := { program := "ytkefbljogjcodaadoor", sum := "536ec0696ce143eaf3fd6d3facf04ece50737324a4810194b154dbed9293f5d4", func := "epitome/epitomelaw12.UnderTie", spec := "underTie", unfollowed := true, recurses := true, named := ["epitome/span.kinds", "unicode/utf8.first", "unicode/utf8.acceptRanges"], apart := false, laid := [("unicode/utf8.acceptRanges", laid_unicode_utf8_acceptRanges), ("epitome/span.kinds", laid_epitome_span_kinds), ("unicode/utf8.first", laid_unicode_utf8_first)] }
def UnderTieSaid : Prop := underTieRow.holds Tryd.pinned (OpenSpec.ofChange underTieSpec)

/-- ITS FALSE NEIGHBOUR: 'it returns false'. Refute it at one input. -/
def underTieWrong : ChangeSpec := { name := "underTie", fn := fun _ => fun
  | [d1, d2, d3] => { results := [.lit (.bool false)], args := [d1, d2, d3] }
  | _ => none }
def UnderTieWrongFalsely : Prop := underTieRow.holds Tryd.pinned (OpenSpec.ofChange underTieWrong)

/-- 'epitomelaw12.UnderAll': WHATEVER THE INPUT: true; the input reads as it did. -/
def underAllSpec : ChangeSpec := { name := "underAll", fn := fun _ => fun
  | [d1, d2, d3] => { results := [.lit (.bool true)], args := [d1, d2, d3] }
  | _ => none }
def underAllRow : OpenClaim := { program := "ytkefbljogjcodaadoor", sum := "536ec0696ce143eaf3fd6d3facf04ece50737324a4810194b154dbed9293f5d4", func := "epitome/epitomelaw12.UnderAll", spec := "underAll", unfollowed := true, recurses := true, named := ["epitome/span.kinds", "unicode/utf8.first", "unicode/utf8.acceptRanges"], apart := false, laid := [("unicode/utf8.acceptRanges", laid_unicode_utf8_acceptRanges), ("epitome/span.kinds", laid_epitome_span_kinds), ("unicode/utf8.first", laid_unicode_utf8_first)] }
def UnderAllSaid : Prop := underAllRow.holds Tryd.pinned (OpenSpec.ofChange underAllSpec)

/-- ITS FALSE NEIGHBOUR: 'it returns false'. Refute it at one input. -/
def underAllWrong : ChangeSpec := { name := "underAll", fn := fun _ => fun
  | [d1, d2, d3] => { results := [.lit (.bool false)], args := [d1, d2, d3] }
  | _ => none }
def UnderAllWrongFalsely : Prop := underAllRow.holds Tryd.pinned (OpenSpec.ofChange underAllWrong)

/-- 'epitomelaw12.UnderChain': WHATEVER THE INPUT: true; the input reads as it did. -/
def underChainSpec : ChangeSpec := { name := "underChain", fn := fun _ => fun
  | [d1, d2, d3] => { results := [.lit (.bool true)], args := [d1, d2, d3] }
  | _ => none }
def underChainRow : OpenClaim := { program := "ytkefbljogjcodaadoor", sum := "536ec0696ce143eaf3fd6d3facf04ece50737324a4810194b154dbed9293f5d4", func := "epitome/epitomelaw12.UnderChain", spec := "underChain", unfollowed := true, recurses := true, named := ["epitome/span.kinds", "unicode/utf8.first", "unicode/utf8.acceptRanges"], apart := false, laid := [("unicode/utf8.acceptRanges", laid_unicode_utf8_acceptRanges), ("epitome/span.kinds", laid_epitome_span_kinds), ("unicode/utf8.first", laid_unicode_utf8_first)] }
def UnderChainSaid : Prop := underChainRow.holds Tryd.pinned (OpenSpec.ofChange underChainSpec)

/-- ITS FALSE NEIGHBOUR: 'it returns false'. Refute it at one input. -/
def underChainWrong : ChangeSpec := { name := "underChain", fn := fun _ => fun
  | [d1, d2, d3] => { results := [.lit (.bool false)], args := [d1, d2, d3] }
  | _ => none }
def UnderChainWrongFalsely : Prop := underChainRow.holds Tryd.pinned (OpenSpec.ofChange underChainWrong)

/-- 'epitomelaw11.OverAll': WHATEVER THE INPUT: true; the input reads as it did. -/
def overAllSpec : ChangeSpec := { name := "overAll", fn := fun _ => fun
  | [d1, d2, d3] => { results := [.lit (.bool true)], args := [d1, d2, d3] }
  | _ => none }
def overAllRow : OpenClaim := { program := "ytkefbljogjcodaadoor", sum := "536ec0696ce143eaf3fd6d3facf04ece50737324a4810194b154dbed9293f5d4", func := "epitome/epitomelaw11.OverAll", spec := "overAll", unfollowed := true, recurses := true, named := ["epitome/span.kinds", "unicode/utf8.first", "unicode/utf8.acceptRanges"], apart := false, laid := [("unicode/utf8.acceptRanges", laid_unicode_utf8_acceptRanges), ("epitome/span.kinds", laid_epitome_span_kinds), ("unicode/utf8.first", laid_unicode_utf8_first)] }
def OverAllSaid : Prop := overAllRow.holds Tryd.pinned (OpenSpec.ofChange overAllSpec)

/-- ITS FALSE NEIGHBOUR: 'it returns false'. Refute it at one input. -/
def overAllWrong : ChangeSpec := { name := "overAll", fn := fun _ => fun
  | [d1, d2, d3] => { results := [.lit (.bool false)], args := [d1, d2, d3] }
  | _ => none }
def OverAllWrongFalsely : Prop := overAllRow.holds Tryd.pinned (OpenSpec.ofChange overAllWrong)

/-- 'epitomelaw11.OverGaps': WHATEVER THE INPUT: true; the input reads as it did. -/
def overGapsSpec : ChangeSpec := { name := "overGaps", fn := fun _ => fun
  | [d1, d2, d3] => { results := [.lit (.bool true)], args := [d1, d2, d3] }
  | _ => none }
def overGapsRow : OpenClaim := { program := "ytkefbljogjcodaadoor", sum := "536ec0696ce143eaf3fd6d3facf04ece50737324a4810194b154dbed9293f5d4", func := "epitome/epitomelaw11.OverGaps", spec := "overGaps", unfollowed := true, recurses := true, named := ["epitome/span.kinds", "unicode/utf8.first", "unicode/utf8.acceptRanges"], apart := false, laid := [("unicode/utf8.acceptRanges", laid_unicode_utf8_acceptRanges), ("epitome/span.kinds", laid_epitome_span_kinds), ("unicode/utf8.first", laid_unicode_utf8_first)] }
def OverGapsSaid : Prop := overGapsRow.holds Tryd.pinned (OpenSpec.ofChange overGapsSpec)

/-- ITS FALSE NEIGHBOUR: 'it returns false'. Refute it at one input. -/
def overGapsWrong : ChangeSpec := { name := "overGaps", fn := fun _ => fun
  | [d1, d2, d3] => { results := [.lit (.bool false)], args := [d1, d2, d3] }
  | _ => none }
def OverGapsWrongFalsely : Prop := overGapsRow.holds Tryd.pinned (OpenSpec.ofChange overGapsWrong)

/-- 'epitomelaw09.ComposeAll': WHATEVER THE INPUT: true; the input reads as it did. -/
def composeAllSpec : ChangeSpec := { name := "composeAll", fn := fun _ => fun
  | [d1, d2, d3] => { results := [.lit (.bool true)], args := [d1, d2, d3] }
  | _ => none }
def composeAllRow : OpenClaim := { program := "ytkefbljogjcodaadoor", sum := "536ec0696ce143eaf3fd6d3facf04ece50737324a4810194b154dbed9293f5d4", func := "epitome/epitomelaw09.ComposeAll", spec := "composeAll", unfollowed := true, recurses := true, named := ["epitome/span.kinds", "unicode/utf8.first", "unicode/utf8.acceptRanges"], apart := false, laid := [("unicode/utf8.acceptRanges", laid_unicode_utf8_acceptRanges), ("epitome/span.kinds", laid_epitome_span_kinds), ("unicode/utf8.first", laid_unicode_utf8_first)] }
def ComposeAllSaid : Prop := composeAllRow.holds Tryd.pinned (OpenSpec.ofChange composeAllSpec)

/-- ITS FALSE NEIGHBOUR: 'it returns false'. Refute it at one input. -/
def composeAllWrong : ChangeSpec := { name := "composeAll", fn := fun _ => fun
  | [d1, d2, d3] => { results := [.lit (.bool false)], args := [d1, d2, d3] }
  | _ => none }
def ComposeAllWrongFalsely : Prop := composeAllRow.holds Tryd.pinned (OpenSpec.ofChange composeAllWrong)

/-- 'epitomelaw08.PlaceGaps': WHATEVER THE INPUT: true; the input reads as it did. -/
def placeGapsSpec : ChangeSpec := { name := "placeGaps", fn := fun _ => fun
  | [d1, d2] => { results := [.lit (.bool true)], args := [d1, d2] }
  | _ => none }
def placeGapsRow : OpenClaim := { program := "ytkefbljogjcodaadoor", sum := "536ec0696ce143eaf3fd6d3facf04ece50737324a4810194b154dbed9293f5d4", func := "epitome/epitomelaw08.PlaceGaps", spec := "placeGaps", unfollowed := true, recurses := true, named := ["epitome/span.kinds", "unicode/utf8.first", "unicode/utf8.acceptRanges"], apart := false, laid := [("unicode/utf8.acceptRanges", laid_unicode_utf8_acceptRanges), ("epitome/span.kinds", laid_epitome_span_kinds), ("unicode/utf8.first", laid_unicode_utf8_first)] }
def PlaceGapsSaid : Prop := placeGapsRow.holds Tryd.pinned (OpenSpec.ofChange placeGapsSpec)

/-- ITS FALSE NEIGHBOUR: 'it returns false'. Refute it at one input. -/
def placeGapsWrong : ChangeSpec := { name := "placeGaps", fn := fun _ => fun
  | [d1, d2] => { results := [.lit (.bool false)], args := [d1, d2] }
  | _ => none }
def PlaceGapsWrongFalsely : Prop := placeGapsRow.holds Tryd.pinned (OpenSpec.ofChange placeGapsWrong)

/-- 'epitomelaw07.ApplyRow': WHATEVER THE INPUT: true; the input reads as it did. -/
def applyRowSpec : ChangeSpec := { name := "applyRow", fn := fun _ => fun
  | [d1, d2, d3] => { results := [.lit (.bool true)], args := [d1, d2, d3] }
  | _ => none }
def applyRowRow : OpenClaim := { program := "ytkefbljogjcodaadoor", sum := "536ec0696ce143eaf3fd6d3facf04ece50737324a4810194b154dbed9293f5d4", func := "epitome/epitomelaw07.ApplyRow", spec := "applyRow", unfollowed := true, recurses := true, named := ["epitome/span.kinds", "unicode/utf8.first", "unicode/utf8.acceptRanges"], apart := false, laid := [("unicode/utf8.acceptRanges", laid_unicode_utf8_acceptRanges), ("epitome/span.kinds", laid_epitome_span_kinds), ("unicode/utf8.first", laid_unicode_utf8_first)] }
def ApplyRowSaid : Prop := applyRowRow.holds Tryd.pinned (OpenSpec.ofChange applyRowSpec)

/-- ITS FALSE NEIGHBOUR: 'it returns false'. Refute it at one input. -/
def applyRowWrong : ChangeSpec := { name := "applyRow", fn := fun _ => fun
  | [d1, d2, d3] => { results := [.lit (.bool false)], args := [d1, d2, d3] }
  | _ => none }
def ApplyRowWrongFalsely : Prop := applyRowRow.holds Tryd.pinned (OpenSpec.ofChange applyRowWrong)

/-- 'epitomelaw06.GapsOne': WHATEVER THE INPUT: true; the input reads as it did. -/
def gapsOneSpec : ChangeSpec := { name := "gapsOne", fn := fun _ => fun
  | [d1, d2] => { results := [.lit (.bool true)], args := [d1, d2] }
  | _ => none }
def gapsOneRow : OpenClaim := { program := "ytkefbljogjcodaadoor", sum := "536ec0696ce143eaf3fd6d3facf04ece50737324a4810194b154dbed9293f5d4", func := "epitome/epitomelaw06.GapsOne", spec := "gapsOne", unfollowed := true, recurses := true, named := ["epitome/span.kinds", "unicode/utf8.first", "unicode/utf8.acceptRanges"], apart := false, laid := [("unicode/utf8.acceptRanges", laid_unicode_utf8_acceptRanges), ("epitome/span.kinds", laid_epitome_span_kinds), ("unicode/utf8.first", laid_unicode_utf8_first)] }
def GapsOneSaid : Prop := gapsOneRow.holds Tryd.pinned (OpenSpec.ofChange gapsOneSpec)

/-- ITS FALSE NEIGHBOUR: 'it returns false'. Refute it at one input. -/
def gapsOneWrong : ChangeSpec := { name := "gapsOne", fn := fun _ => fun
  | [d1, d2] => { results := [.lit (.bool false)], args := [d1, d2] }
  | _ => none }
def GapsOneWrongFalsely : Prop := gapsOneRow.holds Tryd.pinned (OpenSpec.ofChange gapsOneWrong)

/-- 'epitomelaw06.GapsJoin': WHATEVER THE INPUT: true; the input reads as it did. -/
def gapsJoinSpec : ChangeSpec := { name := "gapsJoin", fn := fun _ => fun
  | [d1, d2, d3] => { results := [.lit (.bool true)], args := [d1, d2, d3] }
  | _ => none }
def gapsJoinRow : OpenClaim := { program := "ytkefbljogjcodaadoor", sum := "536ec0696ce143eaf3fd6d3facf04ece50737324a4810194b154dbed9293f5d4", func := "epitome/epitomelaw06.GapsJoin", spec := "gapsJoin", unfollowed := true, recurses := true, named := ["epitome/span.kinds", "unicode/utf8.first", "unicode/utf8.acceptRanges"], apart := false, laid := [("unicode/utf8.acceptRanges", laid_unicode_utf8_acceptRanges), ("epitome/span.kinds", laid_epitome_span_kinds), ("unicode/utf8.first", laid_unicode_utf8_first)] }
def GapsJoinSaid : Prop := gapsJoinRow.holds Tryd.pinned (OpenSpec.ofChange gapsJoinSpec)

/-- ITS FALSE NEIGHBOUR: 'it returns false'. Refute it at one input. -/
def gapsJoinWrong : ChangeSpec := { name := "gapsJoin", fn := fun _ => fun
  | [d1, d2, d3] => { results := [.lit (.bool false)], args := [d1, d2, d3] }
  | _ => none }
def GapsJoinWrongFalsely : Prop := gapsJoinRow.holds Tryd.pinned (OpenSpec.ofChange gapsJoinWrong)

/- THE SECOND FORM. 'bulk': how many values and letters a reading holds, each counted each time it is reached (what is shared counts as often as it is met; a slice's spare places count too). A statement '..UptoSaid' is the law's where the arguments, and the package variables that the reading takes, are together of bulk at most 1048576: NARROWER than '..Said'. Prove '..Said' where nothing that the law and all that it calls make is longer than what came in: it says more and counts as full. Else prove '..UptoSaid'. A law counts once. -/
mutual
def uptoBulk {H : Type} : DataW H → Nat
  | .lit (.string bytes) => bytes.length + 1
  | .lit _ => 1
  | .nil => 1
  | .ptr d => uptoBulk d + 1
  | .slice elems spare => uptoBulkAll elems + uptoBulkAll spare + 1
  | .agg parts => uptoBulkAll parts + 1
  | .iface _ d => uptoBulk d + 1
  | .map entries => uptoBulkEntries entries + 1
  | .held _ => 1
def uptoBulkAll {H : Type} : List (DataW H) → Nat
  | [] => 0
  | d :: r => uptoBulk d + uptoBulkAll r
def uptoBulkEntries {H : Type} : List (Lit × DataW H) → Nat
  | [] => 0
  | x :: r => uptoBulkEntry x + uptoBulkEntries r
def uptoBulkEntry {H : Type} : Lit × DataW H → Nat
  | (.string bytes, d) => bytes.length + uptoBulk d + 1
  | (_, d) => uptoBulk d + 1
 end
def uptoSmall : (H : Type) → List (DataW H) → Bool := fun _ ds => decide (uptoBulkAll ds ≤ 1048576)
def OpenSpec.upto (s : _root_.Go.ChangeSpec) : _root_.Go.OpenSpec := { _root_.Go.OpenSpec.ofChange s with cond := some uptoSmall }

/-- 'epitomelaw12.UnderTie', WHERE WHAT IT READS IS OF BULK AT MOST 1048576: true; the input reads as it did. -/
def underTieUptoRow : OpenClaim := { program := "ytkefbljogjcodaadoor", sum := "536ec0696ce143eaf3fd6d3facf04ece50737324a4810194b154dbed9293f5d4", func := "epitome/epitomelaw12.UnderTie", spec := "underTie", unfollowed := true, recurses := true, named := ["epitome/span.kinds", "unicode/utf8.first", "unicode/utf8.acceptRanges"], apart := false, laid := [("unicode/utf8.acceptRanges", laid_unicode_utf8_acceptRanges), ("epitome/span.kinds", laid_epitome_span_kinds), ("unicode/utf8.first", laid_unicode_utf8_first)], narrowed := true }
def UnderTieUptoSaid : Prop := underTieUptoRow.holds Tryd.pinned (OpenSpec.upto underTieSpec)

/-- 'epitomelaw12.UnderAll', WHERE WHAT IT READS IS OF BULK AT MOST 1048576: true; the input reads as it did. -/
def underAllUptoRow : OpenClaim := { program := "ytkefbljogjcodaadoor", sum := "536ec0696ce143eaf3fd6d3facf04ece50737324a4810194b154dbed9293f5d4", func := "epitome/epitomelaw12.UnderAll", spec := "underAll", unfollowed := true, recurses := true, named := ["epitome/span.kinds", "unicode/utf8.first", "unicode/utf8.acceptRanges"], apart := false, laid := [("unicode/utf8.acceptRanges", laid_unicode_utf8_acceptRanges), ("epitome/span.kinds", laid_epitome_span_kinds), ("unicode/utf8.first", laid_unicode_utf8_first)], narrowed := true }
def UnderAllUptoSaid : Prop := underAllUptoRow.holds Tryd.pinned (OpenSpec.upto underAllSpec)

/-- 'epitomelaw12.UnderChain', WHERE WHAT IT READS IS OF BULK AT MOST 1048576: true; the input reads as it did. -/
def underChainUptoRow : OpenClaim := { program := "ytkefbljogjcodaadoor", sum := "536ec0696ce143eaf3fd6d3facf04ece50737324a4810194b154dbed9293f5d4", func := "epitome/epitomelaw12.UnderChain", spec := "underChain", unfollowed := true, recurses := true, named := ["epitome/span.kinds", "unicode/utf8.first", "unicode/utf8.acceptRanges"], apart := false, laid := [("unicode/utf8.acceptRanges", laid_unicode_utf8_acceptRanges), ("epitome/span.kinds", laid_epitome_span_kinds), ("unicode/utf8.first", laid_unicode_utf8_first)], narrowed := true }
def UnderChainUptoSaid : Prop := underChainUptoRow.holds Tryd.pinned (OpenSpec.upto underChainSpec)

/-- 'epitomelaw11.OverAll', WHERE WHAT IT READS IS OF BULK AT MOST 1048576: true; the input reads as it did. -/
def overAllUptoRow : OpenClaim := { program := "ytkefbljogjcodaadoor", sum := "536ec0696ce143eaf3fd6d3facf04ece50737324a4810194b154dbed9293f5d4", func := "epitome/epitomelaw11.OverAll", spec := "overAll", unfollowed := true, recurses := true, named := ["epitome/span.kinds", "unicode/utf8.first", "unicode/utf8.acceptRanges"], apart := false, laid := [("unicode/utf8.acceptRanges", laid_unicode_utf8_acceptRanges), ("epitome/span.kinds", laid_epitome_span_kinds), ("unicode/utf8.first", laid_unicode_utf8_first)], narrowed := true }
def OverAllUptoSaid : Prop := overAllUptoRow.holds Tryd.pinned (OpenSpec.upto overAllSpec)

/-- 'epitomelaw11.OverGaps', WHERE WHAT IT READS IS OF BULK AT MOST 1048576: true; the input reads as it did. -/
def overGapsUptoRow : OpenClaim := { program := "ytkefbljogjcodaadoor", sum := "536ec0696ce143eaf3fd6d3facf04ece50737324a4810194b154dbed9293f5d4", func := "epitome/epitomelaw11.OverGaps", spec := "overGaps", unfollowed := true, recurses := true, named := ["epitome/span.kinds", "unicode/utf8.first", "unicode/utf8.acceptRanges"], apart := false, laid := [("unicode/utf8.acceptRanges", laid_unicode_utf8_acceptRanges), ("epitome/span.kinds", laid_epitome_span_kinds), ("unicode/utf8.first", laid_unicode_utf8_first)], narrowed := true }
def OverGapsUptoSaid : Prop := overGapsUptoRow.holds Tryd.pinned (OpenSpec.upto overGapsSpec)

/-- 'epitomelaw09.ComposeAll', WHERE WHAT IT READS IS OF BULK AT MOST 1048576: true; the input reads as it did. -/
def composeAllUptoRow : OpenClaim := { program := "ytkefbljogjcodaadoor", sum := "536ec0696ce143eaf3fd6d3facf04ece50737324a4810194b154dbed9293f5d4", func := "epitome/epitomelaw09.ComposeAll", spec := "composeAll", unfollowed := true, recurses := true, named := ["epitome/span.kinds", "unicode/utf8.first", "unicode/utf8.acceptRanges"], apart := false, laid := [("unicode/utf8.acceptRanges", laid_unicode_utf8_acceptRanges), ("epitome/span.kinds", laid_epitome_span_kinds), ("unicode/utf8.first", laid_unicode_utf8_first)], narrowed := true }
def ComposeAllUptoSaid : Prop := composeAllUptoRow.holds Tryd.pinned (OpenSpec.upto composeAllSpec)

/-- 'epitomelaw08.PlaceGaps', WHERE WHAT IT READS IS OF BULK AT MOST 1048576: true; the input reads as it did. -/
def placeGapsUptoRow : OpenClaim := { program := "ytkefbljogjcodaadoor", sum := "536ec0696ce143eaf3fd6d3facf04ece50737324a4810194b154dbed9293f5d4", func := "epitome/epitomelaw08.PlaceGaps", spec := "placeGaps", unfollowed := true, recurses := true, named := ["epitome/span.kinds", "unicode/utf8.first", "unicode/utf8.acceptRanges"], apart := false, laid := [("unicode/utf8.acceptRanges", laid_unicode_utf8_acceptRanges), ("epitome/span.kinds", laid_epitome_span_kinds), ("unicode/utf8.first", laid_unicode_utf8_first)], narrowed := true }
def PlaceGapsUptoSaid : Prop := placeGapsUptoRow.holds Tryd.pinned (OpenSpec.upto placeGapsSpec)

/-- 'epitomelaw07.ApplyRow', WHERE WHAT IT READS IS OF BULK AT MOST 1048576: true; the input reads as it did. -/
def applyRowUptoRow : OpenClaim := { program := "ytkefbljogjcodaadoor", sum := "536ec0696ce143eaf3fd6d3facf04ece50737324a4810194b154dbed9293f5d4", func := "epitome/epitomelaw07.ApplyRow", spec := "applyRow", unfollowed := true, recurses := true, named := ["epitome/span.kinds", "unicode/utf8.first", "unicode/utf8.acceptRanges"], apart := false, laid := [("unicode/utf8.acceptRanges", laid_unicode_utf8_acceptRanges), ("epitome/span.kinds", laid_epitome_span_kinds), ("unicode/utf8.first", laid_unicode_utf8_first)], narrowed := true }
def ApplyRowUptoSaid : Prop := applyRowUptoRow.holds Tryd.pinned (OpenSpec.upto applyRowSpec)

/-- 'epitomelaw06.GapsOne', WHERE WHAT IT READS IS OF BULK AT MOST 1048576: true; the input reads as it did. -/
def gapsOneUptoRow : OpenClaim := { program := "ytkefbljogjcodaadoor", sum := "536ec0696ce143eaf3fd6d3facf04ece50737324a4810194b154dbed9293f5d4", func := "epitome/epitomelaw06.GapsOne", spec := "gapsOne", unfollowed := true, recurses := true, named := ["epitome/span.kinds", "unicode/utf8.first", "unicode/utf8.acceptRanges"], apart := false, laid := [("unicode/utf8.acceptRanges", laid_unicode_utf8_acceptRanges), ("epitome/span.kinds", laid_epitome_span_kinds), ("unicode/utf8.first", laid_unicode_utf8_first)], narrowed := true }
def GapsOneUptoSaid : Prop := gapsOneUptoRow.holds Tryd.pinned (OpenSpec.upto gapsOneSpec)

/-- 'epitomelaw06.GapsJoin', WHERE WHAT IT READS IS OF BULK AT MOST 1048576: true; the input reads as it did. -/
def gapsJoinUptoRow : OpenClaim := { program := "ytkefbljogjcodaadoor", sum := "536ec0696ce143eaf3fd6d3facf04ece50737324a4810194b154dbed9293f5d4", func := "epitome/epitomelaw06.GapsJoin", spec := "gapsJoin", unfollowed := true, recurses := true, named := ["epitome/span.kinds", "unicode/utf8.first", "unicode/utf8.acceptRanges"], apart := false, laid := [("unicode/utf8.acceptRanges", laid_unicode_utf8_acceptRanges), ("epitome/span.kinds", laid_epitome_span_kinds), ("unicode/utf8.first", laid_unicode_utf8_first)], narrowed := true }
def GapsJoinUptoSaid : Prop := gapsJoinUptoRow.holds Tryd.pinned (OpenSpec.upto gapsJoinSpec)

end Rows
end Go.Proofs.YtkefbljogjcodaaDoor
