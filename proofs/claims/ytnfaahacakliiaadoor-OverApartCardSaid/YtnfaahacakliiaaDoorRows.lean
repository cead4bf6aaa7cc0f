/-
  NARROWER THAN 'FOR EVERY INPUT', by the rows' own cells (each row's printed sentence says how): OverAll: laid · OverDrops: laid · OverApart: laid · OverKeeps: laid · OverPuts: laid · OverGaps: laid · OverOne: laid · OverMany: laid.
  DERIVED. THE GIVEN ROWS OF THIS SEAT. 8 by the template 'for every input the law returns true; each argument reads behind the call as it read before'; 0 by the template 'total and deterministic' (their statements: YtnfaahacakliiaaDoorTotals.lean).
  GIVEN WITH THE SEED: the statements are not yours to turn. If you find one false, say at which input.
  Laid BY PROGRAM, IN A SANDBOX (cutbox-rows.mjs): the forced cells as the released guide's own fill.sh prints them over the translation 6a93f946b6bb9c1a… (all of the seat's roots in one cut). By AI agents, Wed Nov 11 2026. No macro, syntax, notation, axiom, sorry.
-/
import Derived.Test.YtnfaahacakliiaaDoorChecked
import GoSem.PinnedTables
import GoSem.Claim
import GoSem.ClaimJoined
import GoSem.ClaimMapViews
import Derived.JoinedTies
import Derived.KernelRfl
namespace Go.Proofs.YtnfaahacakliiaaDoor
/- THE CELL 'sum', in the pinned program and in every row, IS THE sha256 OF THE DUMP (.gsa) THAT YtnfaahacakliiaaDoorProg.lean LOADS. Nothing in Lean hashes anything: it is a label: what it is worth is what the hold of that sum in a sandbox is worth. -/
noncomputable def Tryd.pinned : Pinned := { name := "ytnfaahacakliiaadoor", sum := "6a93f946b6bb9c1adb21774651387d14bd88b76c12f6080ef30ce5fc5af36cf7", checked := Tryd.checked }
namespace Rows
def none {H : Type} : Left H := { results := [], args := [] }

/- WHAT THE LISTED PACKAGE-LEVEL VARIABLES READ AS WHEN THE CALL BEGINS. Each datum BY PROGRAM (the guide's laid-datum.mjs) off the statement by which the dump's own 'gosem.cut.vars' lays the variable. In a bare row this is a premise. The card (YtnfaahacakliiaaDoorCards.lean) ties it to the program's text. -/
def laid_unicode_utf8_acceptRanges {H : Type} : DataW H := .agg [.agg [.lit (.int .u8 128), .lit (.int .u8 191)], .agg [.lit (.int .u8 160), .lit (.int .u8 191)], .agg [.lit (.int .u8 128), .lit (.int .u8 159)], .agg [.lit (.int .u8 144), .lit (.int .u8 191)], .agg [.lit (.int .u8 128), .lit (.int .u8 143)], .agg [.lit (.int .u8 0), .lit (.int .u8 0)], .agg [.lit (.int .u8 0), .lit (.int .u8 0)], .agg [.lit (.int .u8 0), .lit (.int .u8 0)], .agg [.lit (.int .u8 0), .lit (.int .u8 0)], .agg [.lit (.int .u8 0), .lit (.int .u8 0)], .agg [.lit (.int .u8 0), .lit (.int .u8 0)], .agg [.lit (.int .u8 0), .lit (.int .u8 0)], .agg [.lit (.int .u8 0), .lit (.int .u8 0)], .agg [.lit (.int .u8 0), .lit (.int .u8 0)], .agg [.lit (.int .u8 0), .lit (.int .u8 0)], .agg [.lit (.int .u8 0), .lit (.int .u8 0)]]
def laid_epitome_span_kinds {H : Type} : DataW H := .agg [.agg [.lit (.bool false), .lit (.bool false)], .agg [.lit (.bool true), .lit (.bool true)], .agg [.lit (.bool false), .lit (.bool false)], .agg [.lit (.bool true), .lit (.bool false)]]
/-- One of Go's own tables, pinned by name: the form's constant. -/
def laid_unicode_utf8_first : DataW Unit := Go.Pinned.utf8First

/-- 'epitomelaw11.OverAll': WHATEVER THE INPUT: true; the input reads as it did. -/
def overAllSpec : ChangeSpec := { name := "overAll", fn := fun _ => fun
  | [d1, d2, d3] => { results := [.lit (.bool true)], args := [d1, d2, d3] }
  | _ => none }
def overAllRow : OpenClaim := { program := "ytnfaahacakliiaadoor", sum := "6a93f946b6bb9c1adb21774651387d14bd88b76c12f6080ef30ce5fc5af36cf7", func := "epitome/epitomelaw11.OverAll", spec := "overAll", unfollowed := true, recurses := true, named := ["epitome/span.kinds", "unicode/utf8.first", "unicode/utf8.acceptRanges"], apart := false, laid := [("unicode/utf8.acceptRanges", laid_unicode_utf8_acceptRanges), ("epitome/span.kinds", laid_epitome_span_kinds), ("unicode/utf8.first", laid_unicode_utf8_first)] }
def OverAllSaid : Prop := overAllRow.holds Tryd.pinned (OpenSpec.ofChange overAllSpec)

/-- ITS FALSE NEIGHBOUR: 'it returns false'. Refute it at one input. -/
def overAllWrong : ChangeSpec := { name := "overAll", fn := fun _ => fun
  | [d1, d2, d3] => { results := [.lit (.bool false)], args := [d1, d2, d3] }
  | _ => none }
def OverAllWrongFalsely : Prop := overAllRow.holds Tryd.pinned (OpenSpec.ofChange overAllWrong)

/-- 'epitomelaw11.OverDrops': WHATEVER THE INPUT: true; the input reads as it did. -/
def overDropsSpec : ChangeSpec := { name := "overDrops", fn := fun _ => fun
  | [d1, d2] => { results := [.lit (.bool true)], args := [d1, d2] }
  | _ => none }
def overDropsRow : OpenClaim := { program := "ytnfaahacakliiaadoor", sum := "6a93f946b6bb9c1adb21774651387d14bd88b76c12f6080ef30ce5fc5af36cf7", func := "epitome/epitomelaw11.OverDrops", spec := "overDrops", unfollowed := true, recurses := true, named := ["epitome/span.kinds", "unicode/utf8.first", "unicode/utf8.acceptRanges"], apart := false, laid := [("unicode/utf8.acceptRanges", laid_unicode_utf8_acceptRanges), ("epitome/span.kinds", laid_epitome_span_kinds), ("unicode/utf8.first", laid_unicode_utf8_first)] }
def OverDropsSaid : Prop := overDropsRow.holds Tryd.pinned (OpenSpec.ofChange overDropsSpec)

/-- ITS FALSE NEIGHBOUR: 'it returns false'. Refute it at one input. -/
def overDropsWrong : ChangeSpec := { name := "overDrops", fn := fun _ => fun
  | [d1, d2] => { results := [.lit (.bool false)], args := [d1, d2] }
  | _ => none }
def OverDropsWrongFalsely : Prop := overDropsRow.holds Tryd.pinned (OpenSpec.ofChange overDropsWrong)

/-- 'epitomelaw11.OverApart': WHATEVER THE INPUT: true; the input reads as it did. -/
def overApartSpec : ChangeSpec := { name := "overApart", fn := fun _ => fun
  | [d1, d2, d3] => { results := [.lit (.bool true)], args := [d1, d2, d3] }
  | _ => none }
def overApartRow : OpenClaim := { program := "ytnfaahacakliiaadoor", sum := "6a93f946b6bb9c1adb21774651387d14bd88b76c12f6080ef30ce5fc5af36cf7", func := "epitome/epitomelaw11.OverApart", spec := "overApart", unfollowed := true, recurses := true, named := ["epitome/span.kinds", "unicode/utf8.first", "unicode/utf8.acceptRanges"], apart := false, laid := [("unicode/utf8.acceptRanges", laid_unicode_utf8_acceptRanges), ("epitome/span.kinds", laid_epitome_span_kinds), ("unicode/utf8.first", laid_unicode_utf8_first)] }
def OverApartSaid : Prop := overApartRow.holds Tryd.pinned (OpenSpec.ofChange overApartSpec)

/-- ITS FALSE NEIGHBOUR: 'it returns false'. Refute it at one input. -/
def overApartWrong : ChangeSpec := { name := "overApart", fn := fun _ => fun
  | [d1, d2, d3] => { results := [.lit (.bool false)], args := [d1, d2, d3] }
  | _ => none }
def OverApartWrongFalsely : Prop := overApartRow.holds Tryd.pinned (OpenSpec.ofChange overApartWrong)

/-- 'epitomelaw11.OverKeeps': WHATEVER THE INPUT: true; the input reads as it did. -/
def overKeepsSpec : ChangeSpec := { name := "overKeeps", fn := fun _ => fun
  | [d1, d2, d3] => { results := [.lit (.bool true)], args := [d1, d2, d3] }
  | _ => none }
def overKeepsRow : OpenClaim := { program := "ytnfaahacakliiaadoor", sum := "6a93f946b6bb9c1adb21774651387d14bd88b76c12f6080ef30ce5fc5af36cf7", func := "epitome/epitomelaw11.OverKeeps", spec := "overKeeps", unfollowed := true, recurses := true, named := ["epitome/span.kinds", "unicode/utf8.first", "unicode/utf8.acceptRanges"], apart := false, laid := [("unicode/utf8.acceptRanges", laid_unicode_utf8_acceptRanges), ("epitome/span.kinds", laid_epitome_span_kinds), ("unicode/utf8.first", laid_unicode_utf8_first)] }
def OverKeepsSaid : Prop := overKeepsRow.holds Tryd.pinned (OpenSpec.ofChange overKeepsSpec)

/-- ITS FALSE NEIGHBOUR: 'it returns false'. Refute it at one input. -/
def overKeepsWrong : ChangeSpec := { name := "overKeeps", fn := fun _ => fun
  | [d1, d2, d3] => { results := [.lit (.bool false)], args := [d1, d2, d3] }
  | _ => none }
def OverKeepsWrongFalsely : Prop := overKeepsRow.holds Tryd.pinned (OpenSpec.ofChange overKeepsWrong)

/-- 'epitomelaw11.OverPuts': WHATEVER THE INPUT: true; the input reads as it did. -/
def overPutsSpec : ChangeSpec := { name := "overPuts", fn := fun _ => fun
  | [d1, d2, d3] => { results := [.lit (.bool true)], args := [d1, d2, d3] }
  | _ => none }
def overPutsRow : OpenClaim := { program := "ytnfaahacakliiaadoor", sum := "6a93f946b6bb9c1adb21774651387d14bd88b76c12f6080ef30ce5fc5af36cf7", func := "epitome/epitomelaw11.OverPuts", spec := "overPuts", unfollowed := true, recurses := true, named := ["epitome/span.kinds", "unicode/utf8.first", "unicode/utf8.acceptRanges"], apart := false, laid := [("unicode/utf8.acceptRanges", laid_unicode_utf8_acceptRanges), ("epitome/span.kinds", laid_epitome_span_kinds), ("unicode/utf8.first", laid_unicode_utf8_first)] }
def OverPutsSaid : Prop := overPutsRow.holds Tryd.pinned (OpenSpec.ofChange overPutsSpec)

/-- ITS FALSE NEIGHBOUR: 'it returns false'. Refute it at one input. -/
def overPutsWrong : ChangeSpec := { name := "overPuts", fn := fun _ => fun
  | [d1, d2, d3] => { results := [.lit (.bool false)], args := [d1, d2, d3] }
  | _ => none }
def OverPutsWrongFalsely : Prop := overPutsRow.holds Tryd.pinned (OpenSpec.ofChange overPutsWrong)

/-- 'epitomelaw11.OverGaps': WHATEVER THE INPUT: true; the input reads as it did. -/
def overGapsSpec : ChangeSpec := { name := "overGaps", fn := fun _ => fun
  | [d1, d2, d3] => { results := [.lit (.bool true)], args := [d1, d2, d3] }
  | _ => none }
def overGapsRow : OpenClaim := { program := "ytnfaahacakliiaadoor", sum := "6a93f946b6bb9c1adb21774651387d14bd88b76c12f6080ef30ce5fc5af36cf7", func := "epitome/epitomelaw11.OverGaps", spec := "overGaps", unfollowed := true, recurses := true, named := ["epitome/span.kinds", "unicode/utf8.first", "unicode/utf8.acceptRanges"], apart := false, laid := [("unicode/utf8.acceptRanges", laid_unicode_utf8_acceptRanges), ("epitome/span.kinds", laid_epitome_span_kinds), ("unicode/utf8.first", laid_unicode_utf8_first)] }
def OverGapsSaid : Prop := overGapsRow.holds Tryd.pinned (OpenSpec.ofChange overGapsSpec)

/-- ITS FALSE NEIGHBOUR: 'it returns false'. Refute it at one input. -/
def overGapsWrong : ChangeSpec := { name := "overGaps", fn := fun _ => fun
  | [d1, d2, d3] => { results := [.lit (.bool false)], args := [d1, d2, d3] }
  | _ => none }
def OverGapsWrongFalsely : Prop := overGapsRow.holds Tryd.pinned (OpenSpec.ofChange overGapsWrong)

/-- 'epitomelaw11.OverOne': WHATEVER THE INPUT: true; the input reads as it did. -/
def overOneSpec : ChangeSpec := { name := "overOne", fn := fun _ => fun
  | [d1, d2, d3] => { results := [.lit (.bool true)], args := [d1, d2, d3] }
  | _ => none }
def overOneRow : OpenClaim := { program := "ytnfaahacakliiaadoor", sum := "6a93f946b6bb9c1adb21774651387d14bd88b76c12f6080ef30ce5fc5af36cf7", func := "epitome/epitomelaw11.OverOne", spec := "overOne", unfollowed := true, recurses := true, named := ["epitome/span.kinds", "unicode/utf8.first", "unicode/utf8.acceptRanges"], apart := false, laid := [("unicode/utf8.acceptRanges", laid_unicode_utf8_acceptRanges), ("epitome/span.kinds", laid_epitome_span_kinds), ("unicode/utf8.first", laid_unicode_utf8_first)] }
def OverOneSaid : Prop := overOneRow.holds Tryd.pinned (OpenSpec.ofChange overOneSpec)

/-- ITS FALSE NEIGHBOUR: 'it returns false'. Refute it at one input. -/
def overOneWrong : ChangeSpec := { name := "overOne", fn := fun _ => fun
  | [d1, d2, d3] => { results := [.lit (.bool false)], args := [d1, d2, d3] }
  | _ => none }
def OverOneWrongFalsely : Prop := overOneRow.holds Tryd.pinned (OpenSpec.ofChange overOneWrong)

/-- 'epitomelaw11.OverMany': WHATEVER THE INPUT: true; the input reads as it did. -/
def overManySpec : ChangeSpec := { name := "overMany", fn := fun _ => fun
  | [d1, d2, d3] => { results := [.lit (.bool true)], args := [d1, d2, d3] }
  | _ => none }
def overManyRow : OpenClaim := { program := "ytnfaahacakliiaadoor", sum := "6a93f946b6bb9c1adb21774651387d14bd88b76c12f6080ef30ce5fc5af36cf7", func := "epitome/epitomelaw11.OverMany", spec := "overMany", unfollowed := true, recurses := true, named := ["epitome/span.kinds", "unicode/utf8.first", "unicode/utf8.acceptRanges"], apart := false, laid := [("unicode/utf8.acceptRanges", laid_unicode_utf8_acceptRanges), ("epitome/span.kinds", laid_epitome_span_kinds), ("unicode/utf8.first", laid_unicode_utf8_first)] }
def OverManySaid : Prop := overManyRow.holds Tryd.pinned (OpenSpec.ofChange overManySpec)

/-- ITS FALSE NEIGHBOUR: 'it returns false'. Refute it at one input. -/
def overManyWrong : ChangeSpec := { name := "overMany", fn := fun _ => fun
  | [d1, d2, d3] => { results := [.lit (.bool false)], args := [d1, d2, d3] }
  | _ => none }
def OverManyWrongFalsely : Prop := overManyRow.holds Tryd.pinned (OpenSpec.ofChange overManyWrong)

/- THE SECOND FORM. 'bulk': how many values and letters a reading holds, each counted each time it is reached (what is shared counts as often as it is met; a slice's spare places count too). A statement '..UptoSaid' is the law's where the arguments, and the package variables that the reading takes, are together of bulk at most 1048576: NARROWER than '..Said'. Prove '..Said' where nothing that the law and all that it calls make is longer than what came in: it says more and counts as full. Else prove '..UptoSaid'. A law counts once. -/
mutual
def uptoBulk {H : Type} : DataW H → Nat
  | .lit (.string bytes) => bytes.length + 1
  | .lit _ => 1
  | .nil => 1
  | .ptr d => uptoBulk d + 1
  | .slice elems spare => uptoBulkAll elems + uptoBulkAll spare + 1
  | .agg parts => uptoBulkAll parts + 1
  | .iface _ d => uptoBulk d + 1
  | .map entries => uptoBulkEntries entries + 1
  | .held _ => 1
def uptoBulkAll {H : Type} : List (DataW H) → Nat
  | [] => 0
  | d :: r => uptoBulk d + uptoBulkAll r
def uptoBulkEntries {H : Type} : List (Lit × DataW H) → Nat
  | [] => 0
  | x :: r => uptoBulkEntry x + uptoBulkEntries r
def uptoBulkEntry {H : Type} : Lit × DataW H → Nat
  | (.string bytes, d) => bytes.length + uptoBulk d + 1
  | (_, d) => uptoBulk d + 1
 end
def uptoSmall : (H : Type) → List (DataW H) → Bool := fun _ ds => decide (uptoBulkAll ds ≤ 1048576)
def OpenSpec.upto (s : _root_.Go.ChangeSpec) : _root_.Go.OpenSpec := { _root_.Go.OpenSpec.ofChange s with cond := some uptoSmall }

/-- 'epitomelaw11.OverAll', WHERE WHAT IT READS IS OF BULK AT MOST 1048576: true; the input reads as it did. -/
def overAllUptoRow : OpenClaim := { program := "ytnfaahacakliiaadoor", sum := "6a93f946b6bb9c1adb21774651387d14bd88b76c12f6080ef30ce5fc5af36cf7", func := "epitome/epitomelaw11.OverAll", spec := "overAll", unfollowed := true, recurses := true, named := ["epitome/span.kinds", "unicode/utf8.first", "unicode/utf8.acceptRanges"], apart := false, laid := [("unicode/utf8.acceptRanges", laid_unicode_utf8_acceptRanges), ("epitome/span.kinds", laid_epitome_span_kinds), ("unicode/utf8.first", laid_unicode_utf8_first)], narrowed := true }
def OverAllUptoSaid : Prop := overAllUptoRow.holds Tryd.pinned (OpenSpec.upto overAllSpec)

/-- 'epitomelaw11.OverDrops', WHERE WHAT IT READS IS OF BULK AT MOST 1048576: true; the input reads as it did. -/
def overDropsUptoRow : OpenClaim := { program := "ytnfaahacakliiaadoor", sum := "6a93f946b6bb9c1adb21774651387d14bd88b76c12f6080ef30ce5fc5af36cf7", func := "epitome/epitomelaw11.OverDrops", spec := "overDrops", unfollowed := true, recurses := true, named := ["epitome/span.kinds", "unicode/utf8.first", "unicode/utf8.acceptRanges"], apart := false, laid := [("unicode/utf8.acceptRanges", laid_unicode_utf8_acceptRanges), ("epitome/span.kinds", laid_epitome_span_kinds), ("unicode/utf8.first", laid_unicode_utf8_first)], narrowed := true }
def OverDropsUptoSaid : Prop := overDropsUptoRow.holds Tryd.pinned (OpenSpec.upto overDropsSpec)

/-- 'epitomelaw11.OverApart', WHERE WHAT IT READS IS OF BULK AT MOST 1048576: true; the input reads as it did. -/
def overApartUptoRow : OpenClaim := { program := "ytnfaahacakliiaadoor", sum := "6a93f946b6bb9c1adb21774651387d14bd88b76c12f6080ef30ce5fc5af36cf7", func := "epitome/epitomelaw11.OverApart", spec := "overApart", unfollowed := true, recurses := true, named := ["epitome/span.kinds", "unicode/utf8.first", "unicode/utf8.acceptRanges"], apart := false, laid := [("unicode/utf8.acceptRanges", laid_unicode_utf8_acceptRanges), ("epitome/span.kinds", laid_epitome_span_kinds), ("unicode/utf8.first", laid_unicode_utf8_first)], narrowed := true }
def OverApartUptoSaid : Prop := overApartUptoRow.holds Tryd.pinned (OpenSpec.upto overApartSpec)

/-- 'epitomelaw11.OverKeeps', WHERE WHAT IT READS IS OF BULK AT MOST 1048576: true; the input reads as it did. -/
def overKeepsUptoRow : OpenClaim := { program := "ytnfaahacakliiaadoor", sum := "6a93f946b6bb9c1adb21774651387d14bd88b76c12f6080ef30ce5fc5af36cf7", func := "epitome/epitomelaw11.OverKeeps", spec := "overKeeps", unfollowed := true, recurses := true, named := ["epitome/span.kinds", "unicode/utf8.first", "unicode/utf8.acceptRanges"], apart := false, laid := [("unicode/utf8.acceptRanges", laid_unicode_utf8_acceptRanges), ("epitome/span.kinds", laid_epitome_span_kinds), ("unicode/utf8.first", laid_unicode_utf8_first)], narrowed := true }
def OverKeepsUptoSaid : Prop := overKeepsUptoRow.holds Tryd.pinned (OpenSpec.upto overKeepsSpec)

/-- 'epitomelaw11.OverPuts', WHERE WHAT IT READS IS OF BULK AT MOST 1048576: true; the input reads as it did. -/
def overPutsUptoRow : OpenClaim := { program := "ytnfaahacakliiaadoor", sum := "6a93f946b6bb9c1adb21774651387d14bd88b76c12f6080ef30ce5fc5af36cf7", func := "epitome/epitomelaw11.OverPuts", spec := "overPuts", unfollowed := true, recurses := true, named := ["epitome/span.kinds", "unicode/utf8.first", "unicode/utf8.acceptRanges"], apart := false, laid := [("unicode/utf8.acceptRanges", laid_unicode_utf8_acceptRanges), ("epitome/span.kinds", laid_epitome_span_kinds), ("unicode/utf8.first", laid_unicode_utf8_first)], narrowed := true }
def OverPutsUptoSaid : Prop := overPutsUptoRow.holds Tryd.pinned (OpenSpec.upto overPutsSpec)

/-- 'epitomelaw11.OverGaps', WHERE WHAT IT READS IS OF BULK AT MOST 1048576: true; the input reads as it did. -/
def overGapsUptoRow : OpenClaim := { program := "ytnfaahacakliiaadoor", sum := "6a93f946b6bb9c1adb21774651387d14bd88b76c12f6080ef30ce5fc5af36cf7", func := "epitome/epitomelaw11.OverGaps", spec := "overGaps", unfollowed := true, recurses := true, named := ["epitome/span.kinds", "unicode/utf8.first", "unicode/utf8.acceptRanges"], apart := false, laid := [("unicode/utf8.acceptRanges", laid_unicode_utf8_acceptRanges), ("epitome/span.kinds", laid_epitome_span_kinds), ("unicode/utf8.first", laid_unicode_utf8_first)], narrowed := true }
def OverGapsUptoSaid : Prop := overGapsUptoRow.holds Tryd.pinned (OpenSpec.upto overGapsSpec)

/-- 'epitomelaw11.OverOne', WHERE WHAT IT READS IS OF BULK AT MOST 1048576: true; the input reads as it did. -/
def overOneUptoRow : OpenClaim := { program := "ytnfaahacakliiaadoor", sum := "6a93f946b6bb9c1adb21774651387d14bd88b76c12f6080ef30ce5fc5af36cf7", func := "epitome/epitomelaw11.OverOne", spec := "overOne", unfollowed := true, recurses := true, named := ["epitome/span.kinds", "unicode/utf8.first", "unicode/utf8.acceptRanges"], apart := false, laid := [("unicode/utf8.acceptRanges", laid_unicode_utf8_acceptRanges), ("epitome/span.kinds", laid_epitome_span_kinds), ("unicode/utf8.first", laid_unicode_utf8_first)], narrowed := true }
def OverOneUptoSaid : Prop := overOneUptoRow.holds Tryd.pinned (OpenSpec.upto overOneSpec)

/-- 'epitomelaw11.OverMany', WHERE WHAT IT READS IS OF BULK AT MOST 1048576: true; the input reads as it did. -/
def overManyUptoRow : OpenClaim := { program := "ytnfaahacakliiaadoor", sum := "6a93f946b6bb9c1adb21774651387d14bd88b76c12f6080ef30ce5fc5af36cf7", func := "epitome/epitomelaw11.OverMany", spec := "overMany", unfollowed := true, recurses := true, named := ["epitome/span.kinds", "unicode/utf8.first", "unicode/utf8.acceptRanges"], apart := false, laid := [("unicode/utf8.acceptRanges", laid_unicode_utf8_acceptRanges), ("epitome/span.kinds", laid_epitome_span_kinds), ("unicode/utf8.first", laid_unicode_utf8_first)], narrowed := true }
def OverManyUptoSaid : Prop := overManyUptoRow.holds Tryd.pinned (OpenSpec.upto overManySpec)

end Rows
end Go.Proofs.YtnfaahacakliiaaDoor
