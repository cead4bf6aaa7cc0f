/-
  NARROWER THAN 'FOR EVERY INPUT', by the rows' own cells (each row's printed sentence says how): UnderTie: laid · UnderAll: laid · UnderDrops: laid · UnderKeeps: laid · UnderMeets: laid · UnderChain: laid.
  DERIVED. THE GIVEN ROWS OF THIS SEAT. 6 by the template 'for every input the law returns true; each argument reads behind the call as it read before'; 0 by the template 'total and deterministic' (their statements: YtabodcedlhahfaaDoorTotals.lean).
  GIVEN WITH THE SEED: the statements are not yours to turn. If you find one false, say at which input.
  Laid BY PROGRAM, IN A SANDBOX (cutbox-rows.mjs): the forced cells as the released guide's own fill.sh prints them over the translation 30b23fd7f29ed831… (all of the seat's roots in one cut). By AI agents, Wed Nov 11 2026. No macro, syntax, notation, axiom, sorry.
-/
import Derived.Test.YtabodcedlhahfaaDoorChecked
import GoSem.PinnedTables
import GoSem.Claim
import GoSem.ClaimJoined
import GoSem.ClaimMapViews
import Derived.JoinedTies
import Derived.KernelRfl
namespace Go.Proofs.YtabodcedlhahfaaDoor
/- THE CELL 'sum', in the pinned program and in every row, IS THE sha256 OF THE DUMP (.gsa) THAT YtabodcedlhahfaaDoorProg.lean LOADS. Nothing in Lean hashes anything: it is a label: what it is worth is what the hold of that sum in a sandbox is worth. -/
noncomputable def Tryd.pinned : Pinned := { name := "ytabodcedlhahfaadoor", sum := "30b23fd7f29ed831aa02b815f4125fcf59e087b84830001d44199cfb35e8532c", checked := Tryd.checked }
namespace Rows
def none {H : Type} : Left H := { results := [], args := [] }

/- WHAT THE LISTED PACKAGE-LEVEL VARIABLES READ AS WHEN THE CALL BEGINS. Each datum BY PROGRAM (the guide's laid-datum.mjs) off the statement by which the dump's own 'gosem.cut.vars' lays the variable. In a bare row this is a premise. The card (YtabodcedlhahfaaDoorCards.lean) ties it to the program's text. -/
def laid_unicode_utf8_acceptRanges {H : Type} : DataW H := .agg [.agg [.lit (.int .u8 128), .lit (.int .u8 191)], .agg [.lit (.int .u8 160), .lit (.int .u8 191)], .agg [.lit (.int .u8 128), .lit (.int .u8 159)], .agg [.lit (.int .u8 144), .lit (.int .u8 191)], .agg [.lit (.int .u8 128), .lit (.int .u8 143)], .agg [.lit (.int .u8 0), .lit (.int .u8 0)], .agg [.lit (.int .u8 0), .lit (.int .u8 0)], .agg [.lit (.int .u8 0), .lit (.int .u8 0)], .agg [.lit (.int .u8 0), .lit (.int .u8 0)], .agg [.lit (.int .u8 0), .lit (.int .u8 0)], .agg [.lit (.int .u8 0), .lit (.int .u8 0)], .agg [.lit (.int .u8 0), .lit (.int .u8 0)], .agg [.lit (.int .u8 0), .lit (.int .u8 0)], .agg [.lit (.int .u8 0), .lit (.int .u8 0)], .agg [.lit (.int .u8 0), .lit (.int .u8 0)], .agg [.lit (.int .u8 0), .lit (.int .u8 0)]]
def laid_epitome_span_kinds {H : Type} : DataW H := .agg [.agg [.lit (.bool false), .lit (.bool false)], .agg [.lit (.bool true), .lit (.bool true)], .agg [.lit (.bool false), .lit (.bool false)], .agg [.lit (.bool true), .lit (.bool false)]]
/-- One of Go's own tables, pinned by name: the form's constant. -/
def laid_unicode_utf8_first : DataW Unit := Go.Pinned.utf8First

/-- 'epitomelaw12.UnderTie': WHATEVER THE INPUT: true; the input reads as it did. -/
def underTieSpec : ChangeSpec := { name := "underTie", fn := fun _ => fun
  | [d1, d2, d3] => { results := [.lit (.bool true)], args := [d1, d2, d3] }
  | _ => none }
def underTieRow : OpenClaim := { program := "ytabodcedlhahfaadoor", sum := "30b23fd7f29ed831aa02b815f4125fcf59e087b84830001d44199cfb35e8532c", func := "epitome/epitomelaw12.UnderTie", spec := "underTie", unfollowed := true, recurses := true, named := ["epitome/span.kinds", "unicode/utf8.first", "unicode/utf8.acceptRanges"], apart := false, laid := [("unicode/utf8.acceptRanges", laid_unicode_utf8_acceptRanges), ("epitome/span.kinds", laid_epitome_span_kinds), ("unicode/utf8.first", laid_unicode_utf8_first)] }
def UnderTieSaid : Prop := underTieRow.holds Tryd.pinned (OpenSpec.ofChange underTieSpec)

/-- ITS FALSE NEIGHBOUR: 'it returns false'. Refute it at one input. -/
def underTieWrong : ChangeSpec := { name := "underTie", fn := fun _ => fun
  | [d1, d2, d3] => { results := [.lit (.bool false)], args := [d1, d2, d3] }
  | _ => none }
def UnderTieWrongFalsely : Prop := underTieRow.holds Tryd.pinned (OpenSpec.ofChange underTieWrong)

/-- 'epitomelaw12.UnderAll': WHATEVER THE INPUT: true; the input reads as it did. -/
def underAllSpec : ChangeSpec := { name := "underAll", fn := fun _ => fun
  | [d1, d2, d3] => { results := [.lit (.bool true)], args := [d1, d2, d3] }
  | _ => none }
def underAllRow : OpenClaim := { program := "ytabodcedlhahfaadoor", sum := "30b23fd7f29ed831aa02b815f4125fcf59e087b84830001d44199cfb35e8532c", func := "epitome/epitomelaw12.UnderAll", spec := "underAll", unfollowed := true, recurses := true, named := ["epitome/span.kinds", "unicode/utf8.first", "unicode/utf8.acceptRanges"], apart := false, laid := [("unicode/utf8.acceptRanges", laid_unicode_utf8_acceptRanges), ("epitome/span.kinds", laid_epitome_span_kinds), ("unicode/utf8.first", laid_unicode_utf8_first)] }
def UnderAllSaid : Prop := underAllRow.holds Tryd.pinned (OpenSpec.ofChange underAllSpec)

/-- ITS FALSE NEIGHBOUR: 'it returns false'. Refute it at one input. -/
def underAllWrong : ChangeSpec := { name := "underAll", fn := fun _ => fun
  | [d1, d2, d3] => { results := [.lit (.bool false)], args := [d1, d2, d3] }
  | _ => none }
def UnderAllWrongFalsely : Prop := underAllRow.holds Tryd.pinned (OpenSpec.ofChange underAllWrong)

/-- 'epitomelaw12.UnderDrops': WHATEVER THE INPUT: true; the input reads as it did. -/
def underDropsSpec : ChangeSpec := { name := "underDrops", fn := fun _ => fun
  | [d1, d2, d3] => { results := [.lit (.bool true)], args := [d1, d2, d3] }
  | _ => none }
def underDropsRow : OpenClaim := { program := "ytabodcedlhahfaadoor", sum := "30b23fd7f29ed831aa02b815f4125fcf59e087b84830001d44199cfb35e8532c", func := "epitome/epitomelaw12.UnderDrops", spec := "underDrops", unfollowed := true, recurses := true, named := ["epitome/span.kinds", "unicode/utf8.first", "unicode/utf8.acceptRanges"], apart := false, laid := [("unicode/utf8.acceptRanges", laid_unicode_utf8_acceptRanges), ("epitome/span.kinds", laid_epitome_span_kinds), ("unicode/utf8.first", laid_unicode_utf8_first)] }
def UnderDropsSaid : Prop := underDropsRow.holds Tryd.pinned (OpenSpec.ofChange underDropsSpec)

/-- ITS FALSE NEIGHBOUR: 'it returns false'. Refute it at one input. -/
def underDropsWrong : ChangeSpec := { name := "underDrops", fn := fun _ => fun
  | [d1, d2, d3] => { results := [.lit (.bool false)], args := [d1, d2, d3] }
  | _ => none }
def UnderDropsWrongFalsely : Prop := underDropsRow.holds Tryd.pinned (OpenSpec.ofChange underDropsWrong)

/-- 'epitomelaw12.UnderKeeps': WHATEVER THE INPUT: true; the input reads as it did. -/
def underKeepsSpec : ChangeSpec := { name := "underKeeps", fn := fun _ => fun
  | [d1, d2] => { results := [.lit (.bool true)], args := [d1, d2] }
  | _ => none }
def underKeepsRow : OpenClaim := { program := "ytabodcedlhahfaadoor", sum := "30b23fd7f29ed831aa02b815f4125fcf59e087b84830001d44199cfb35e8532c", func := "epitome/epitomelaw12.UnderKeeps", spec := "underKeeps", unfollowed := true, recurses := true, named := ["epitome/span.kinds", "unicode/utf8.first", "unicode/utf8.acceptRanges"], apart := false, laid := [("unicode/utf8.acceptRanges", laid_unicode_utf8_acceptRanges), ("epitome/span.kinds", laid_epitome_span_kinds), ("unicode/utf8.first", laid_unicode_utf8_first)] }
def UnderKeepsSaid : Prop := underKeepsRow.holds Tryd.pinned (OpenSpec.ofChange underKeepsSpec)

/-- ITS FALSE NEIGHBOUR: 'it returns false'. Refute it at one input. -/
def underKeepsWrong : ChangeSpec := { name := "underKeeps", fn := fun _ => fun
  | [d1, d2] => { results := [.lit (.bool false)], args := [d1, d2] }
  | _ => none }
def UnderKeepsWrongFalsely : Prop := underKeepsRow.holds Tryd.pinned (OpenSpec.ofChange underKeepsWrong)

/-- 'epitomelaw12.UnderMeets': WHATEVER THE INPUT: true; the input reads as it did. -/
def underMeetsSpec : ChangeSpec := { name := "underMeets", fn := fun _ => fun
  | [d1, d2, d3] => { results := [.lit (.bool true)], args := [d1, d2, d3] }
  | _ => none }
def underMeetsRow : OpenClaim := { program := "ytabodcedlhahfaadoor", sum := "30b23fd7f29ed831aa02b815f4125fcf59e087b84830001d44199cfb35e8532c", func := "epitome/epitomelaw12.UnderMeets", spec := "underMeets", unfollowed := true, recurses := true, named := ["epitome/span.kinds", "unicode/utf8.first", "unicode/utf8.acceptRanges"], apart := false, laid := [("unicode/utf8.acceptRanges", laid_unicode_utf8_acceptRanges), ("epitome/span.kinds", laid_epitome_span_kinds), ("unicode/utf8.first", laid_unicode_utf8_first)] }
def UnderMeetsSaid : Prop := underMeetsRow.holds Tryd.pinned (OpenSpec.ofChange underMeetsSpec)

/-- ITS FALSE NEIGHBOUR: 'it returns false'. Refute it at one input. -/
def underMeetsWrong : ChangeSpec := { name := "underMeets", fn := fun _ => fun
  | [d1, d2, d3] => { results := [.lit (.bool false)], args := [d1, d2, d3] }
  | _ => none }
def UnderMeetsWrongFalsely : Prop := underMeetsRow.holds Tryd.pinned (OpenSpec.ofChange underMeetsWrong)

/-- 'epitomelaw12.UnderChain': WHATEVER THE INPUT: true; the input reads as it did. -/
def underChainSpec : ChangeSpec := { name := "underChain", fn := fun _ => fun
  | [d1, d2, d3] => { results := [.lit (.bool true)], args := [d1, d2, d3] }
  | _ => none }
def underChainRow : OpenClaim := { program := "ytabodcedlhahfaadoor", sum := "30b23fd7f29ed831aa02b815f4125fcf59e087b84830001d44199cfb35e8532c", func := "epitome/epitomelaw12.UnderChain", spec := "underChain", unfollowed := true, recurses := true, named := ["epitome/span.kinds", "unicode/utf8.first", "unicode/utf8.acceptRanges"], apart := false, laid := [("unicode/utf8.acceptRanges", laid_unicode_utf8_acceptRanges), ("epitome/span.kinds", laid_epitome_span_kinds), ("unicode/utf8.first", laid_unicode_utf8_first)] }
def UnderChainSaid : Prop := underChainRow.holds Tryd.pinned (OpenSpec.ofChange underChainSpec)

/-- ITS FALSE NEIGHBOUR: 'it returns false'. Refute it at one input. -/
def underChainWrong : ChangeSpec := { name := "underChain", fn := fun _ => fun
  | [d1, d2, d3] => { results := [.lit (.bool false)], args := [d1, d2, d3] }
  | _ => none }
def UnderChainWrongFalsely : Prop := underChainRow.holds Tryd.pinned (OpenSpec.ofChange underChainWrong)

/- THE SECOND FORM. 'bulk': how many values and letters a reading holds, each counted each time it is reached (what is shared counts as often as it is met; a slice's spare places count too). A statement '..UptoSaid' is the law's where the arguments, and the package variables that the reading takes, are together of bulk at most 1048576: NARROWER than '..Said'. Prove '..Said' where nothing that the law and all that it calls make is longer than what came in: it says more and counts as full. Else prove '..UptoSaid'. A law counts once. -/
mutual
def uptoBulk {H : Type} : DataW H → Nat
  | .lit (.string bytes) => bytes.length + 1
  | .lit _ => 1
  | .nil => 1
  | .ptr d => uptoBulk d + 1
  | .slice elems spare => uptoBulkAll elems + uptoBulkAll spare + 1
  | .agg parts => uptoBulkAll parts + 1
  | .iface _ d => uptoBulk d + 1
  | .map entries => uptoBulkEntries entries + 1
  | .held _ => 1
def uptoBulkAll {H : Type} : List (DataW H) → Nat
  | [] => 0
  | d :: r => uptoBulk d + uptoBulkAll r
def uptoBulkEntries {H : Type} : List (Lit × DataW H) → Nat
  | [] => 0
  | x :: r => uptoBulkEntry x + uptoBulkEntries r
def uptoBulkEntry {H : Type} : Lit × DataW H → Nat
  | (.string bytes, d) => bytes.length + uptoBulk d + 1
  | (_, d) => uptoBulk d + 1
 end
def uptoSmall : (H : Type) → List (DataW H) → Bool := fun _ ds => decide (uptoBulkAll ds ≤ 1048576)
def OpenSpec.upto (s : _root_.Go.ChangeSpec) : _root_.Go.OpenSpec := { _root_.Go.OpenSpec.ofChange s with cond := some uptoSmall }

/-- 'epitomelaw12.UnderTie', WHERE WHAT IT READS IS OF BULK AT MOST 1048576: true; the input reads as it did. -/
def underTieUptoRow : OpenClaim := { program := "ytabodcedlhahfaadoor", sum := "30b23fd7f29ed831aa02b815f4125fcf59e087b84830001d44199cfb35e8532c", func := "epitome/epitomelaw12.UnderTie", spec := "underTie", unfollowed := true, recurses := true, named := ["epitome/span.kinds", "unicode/utf8.first", "unicode/utf8.acceptRanges"], apart := false, laid := [("unicode/utf8.acceptRanges", laid_unicode_utf8_acceptRanges), ("epitome/span.kinds", laid_epitome_span_kinds), ("unicode/utf8.first", laid_unicode_utf8_first)], narrowed := true }
def UnderTieUptoSaid : Prop := underTieUptoRow.holds Tryd.pinned (OpenSpec.upto underTieSpec)

/-- 'epitomelaw12.UnderAll', WHERE WHAT IT READS IS OF BULK AT MOST 1048576: true; the input reads as it did. -/
def underAllUptoRow : OpenClaim := { program := "ytabodcedlhahfaadoor", sum := "30b23fd7f29ed831aa02b815f4125fcf59e087b84830001d44199cfb35e8532c", func := "epitome/epitomelaw12.UnderAll", spec := "underAll", unfollowed := true, recurses := true, named := ["epitome/span.kinds", "unicode/utf8.first", "unicode/utf8.acceptRanges"], apart := false, laid := [("unicode/utf8.acceptRanges", laid_unicode_utf8_acceptRanges), ("epitome/span.kinds", laid_epitome_span_kinds), ("unicode/utf8.first", laid_unicode_utf8_first)], narrowed := true }
def UnderAllUptoSaid : Prop := underAllUptoRow.holds Tryd.pinned (OpenSpec.upto underAllSpec)

/-- 'epitomelaw12.UnderDrops', WHERE WHAT IT READS IS OF BULK AT MOST 1048576: true; the input reads as it did. -/
def underDropsUptoRow : OpenClaim := { program := "ytabodcedlhahfaadoor", sum := "30b23fd7f29ed831aa02b815f4125fcf59e087b84830001d44199cfb35e8532c", func := "epitome/epitomelaw12.UnderDrops", spec := "underDrops", unfollowed := true, recurses := true, named := ["epitome/span.kinds", "unicode/utf8.first", "unicode/utf8.acceptRanges"], apart := false, laid := [("unicode/utf8.acceptRanges", laid_unicode_utf8_acceptRanges), ("epitome/span.kinds", laid_epitome_span_kinds), ("unicode/utf8.first", laid_unicode_utf8_first)], narrowed := true }
def UnderDropsUptoSaid : Prop := underDropsUptoRow.holds Tryd.pinned (OpenSpec.upto underDropsSpec)

/-- 'epitomelaw12.UnderKeeps', WHERE WHAT IT READS IS OF BULK AT MOST 1048576: true; the input reads as it did. -/
def underKeepsUptoRow : OpenClaim := { program := "ytabodcedlhahfaadoor", sum := "30b23fd7f29ed831aa02b815f4125fcf59e087b84830001d44199cfb35e8532c", func := "epitome/epitomelaw12.UnderKeeps", spec := "underKeeps", unfollowed := true, recurses := true, named := ["epitome/span.kinds", "unicode/utf8.first", "unicode/utf8.acceptRanges"], apart := false, laid := [("unicode/utf8.acceptRanges", laid_unicode_utf8_acceptRanges), ("epitome/span.kinds", laid_epitome_span_kinds), ("unicode/utf8.first", laid_unicode_utf8_first)], narrowed := true }
def UnderKeepsUptoSaid : Prop := underKeepsUptoRow.holds Tryd.pinned (OpenSpec.upto underKeepsSpec)

/-- 'epitomelaw12.UnderMeets', WHERE WHAT IT READS IS OF BULK AT MOST 1048576: true; the input reads as it did. -/
def underMeetsUptoRow : OpenClaim := { program := "ytabodcedlhahfaadoor", sum := "30b23fd7f29ed831aa02b815f4125fcf59e087b84830001d44199cfb35e8532c", func := "epitome/epitomelaw12.UnderMeets", spec := "underMeets", unfollowed := true, recurses := true, named := ["epitome/span.kinds", "unicode/utf8.first", "unicode/utf8.acceptRanges"], apart := false, laid := [("unicode/utf8.acceptRanges", laid_unicode_utf8_acceptRanges), ("epitome/span.kinds", laid_epitome_span_kinds), ("unicode/utf8.first", laid_unicode_utf8_first)], narrowed := true }
def UnderMeetsUptoSaid : Prop := underMeetsUptoRow.holds Tryd.pinned (OpenSpec.upto underMeetsSpec)

/-- 'epitomelaw12.UnderChain', WHERE WHAT IT READS IS OF BULK AT MOST 1048576: true; the input reads as it did. -/
def underChainUptoRow : OpenClaim := { program := "ytabodcedlhahfaadoor", sum := "30b23fd7f29ed831aa02b815f4125fcf59e087b84830001d44199cfb35e8532c", func := "epitome/epitomelaw12.UnderChain", spec := "underChain", unfollowed := true, recurses := true, named := ["epitome/span.kinds", "unicode/utf8.first", "unicode/utf8.acceptRanges"], apart := false, laid := [("unicode/utf8.acceptRanges", laid_unicode_utf8_acceptRanges), ("epitome/span.kinds", laid_epitome_span_kinds), ("unicode/utf8.first", laid_unicode_utf8_first)], narrowed := true }
def UnderChainUptoSaid : Prop := underChainUptoRow.holds Tryd.pinned (OpenSpec.upto underChainSpec)

end Rows
end Go.Proofs.YtabodcedlhahfaaDoor
