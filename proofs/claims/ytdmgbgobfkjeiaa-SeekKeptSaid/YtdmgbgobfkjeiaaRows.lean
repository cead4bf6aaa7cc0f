/-
  No cell of these rows narrows 'for every input' (looked for: loops, veiled, ifaces, maps, wideKeys, modest, calm, conditions, laid).
  DERIVED. THE GIVEN ROWS OF THIS SEAT. 8 by the template 'for every input the law returns true; each argument reads behind the call as it read before'; 0 by the template 'total and deterministic' (their statements: YtdmgbgobfkjeiaaTotals.lean).
  GIVEN WITH THE SEED: the statements are not yours to turn. If you find one false, say at which input.
  Laid BY PROGRAM, IN A SANDBOX (cutbox-rows.mjs): the forced cells as the released guide's own fill.sh prints them over the translation 6a6ce850b58e7695… (all of the seat's roots in one cut). By AI agents, Wed Nov 11 2026. No macro, syntax, notation, axiom, sorry.
-/
import Derived.Test.YtdmgbgobfkjeiaaChecked
import GoSem.Claim
import GoSem.ClaimJoined
import GoSem.ClaimMapViews
import Derived.JoinedTies
import Derived.KernelRfl
namespace Go.Proofs.Ytdmgbgobfkjeiaa
/- THE CELL 'sum', in the pinned program and in every row, IS THE sha256 OF THE DUMP (.gsa) THAT YtdmgbgobfkjeiaaProg.lean LOADS. Nothing in Lean hashes anything: it is a label: what it is worth is what the hold of that sum in a sandbox is worth. -/
noncomputable def Try.pinned : Pinned := { name := "ytdmgbgobfkjeiaa", sum := "6a6ce850b58e7695b64e1c730c5a8fdb8329ad5aee2674b3976ece409694f204", checked := Try.checked }
namespace Rows
def none {H : Type} : Left H := { results := [], args := [] }

/-- 'epitomelaw18.KeepAll': WHATEVER THE INPUT: true; the input reads as it did. -/
def keepAllSpec : ChangeSpec := { name := "keepAll", fn := fun _ => fun
  | [d1, d2, d3] => { results := [.lit (.bool true)], args := [d1, d2, d3] }
  | _ => none }
def keepAllRow : OpenClaim := { program := "ytdmgbgobfkjeiaa", sum := "6a6ce850b58e7695b64e1c730c5a8fdb8329ad5aee2674b3976ece409694f204", func := "epitome/epitomelaw18.KeepAll", spec := "keepAll", apart := false }
def KeepAllSaid : Prop := keepAllRow.holds Try.pinned (OpenSpec.ofChange keepAllSpec)

/-- ITS FALSE NEIGHBOUR: 'it returns false'. Refute it at one input. -/
def keepAllWrong : ChangeSpec := { name := "keepAll", fn := fun _ => fun
  | [d1, d2, d3] => { results := [.lit (.bool false)], args := [d1, d2, d3] }
  | _ => none }
def KeepAllWrongFalsely : Prop := keepAllRow.holds Try.pinned (OpenSpec.ofChange keepAllWrong)

/-- 'epitomelaw18.KeepBounds': WHATEVER THE INPUT: true; the input reads as it did. -/
def keepBoundsSpec : ChangeSpec := { name := "keepBounds", fn := fun _ => fun
  | [d1, d2, d3] => { results := [.lit (.bool true)], args := [d1, d2, d3] }
  | _ => none }
def keepBoundsRow : OpenClaim := { program := "ytdmgbgobfkjeiaa", sum := "6a6ce850b58e7695b64e1c730c5a8fdb8329ad5aee2674b3976ece409694f204", func := "epitome/epitomelaw18.KeepBounds", spec := "keepBounds", apart := false }
def KeepBoundsSaid : Prop := keepBoundsRow.holds Try.pinned (OpenSpec.ofChange keepBoundsSpec)

/-- ITS FALSE NEIGHBOUR: 'it returns false'. Refute it at one input. -/
def keepBoundsWrong : ChangeSpec := { name := "keepBounds", fn := fun _ => fun
  | [d1, d2, d3] => { results := [.lit (.bool false)], args := [d1, d2, d3] }
  | _ => none }
def KeepBoundsWrongFalsely : Prop := keepBoundsRow.holds Try.pinned (OpenSpec.ofChange keepBoundsWrong)

/-- 'epitomelaw18.KeepTwice': WHATEVER THE INPUT: true; the input reads as it did. -/
def keepTwiceSpec : ChangeSpec := { name := "keepTwice", fn := fun _ => fun
  | [d1, d2, d3] => { results := [.lit (.bool true)], args := [d1, d2, d3] }
  | _ => none }
def keepTwiceRow : OpenClaim := { program := "ytdmgbgobfkjeiaa", sum := "6a6ce850b58e7695b64e1c730c5a8fdb8329ad5aee2674b3976ece409694f204", func := "epitome/epitomelaw18.KeepTwice", spec := "keepTwice", apart := false }
def KeepTwiceSaid : Prop := keepTwiceRow.holds Try.pinned (OpenSpec.ofChange keepTwiceSpec)

/-- ITS FALSE NEIGHBOUR: 'it returns false'. Refute it at one input. -/
def keepTwiceWrong : ChangeSpec := { name := "keepTwice", fn := fun _ => fun
  | [d1, d2, d3] => { results := [.lit (.bool false)], args := [d1, d2, d3] }
  | _ => none }
def KeepTwiceWrongFalsely : Prop := keepTwiceRow.holds Try.pinned (OpenSpec.ofChange keepTwiceWrong)

/-- 'epitomelaw18.KeepNone': WHATEVER THE INPUT: true; the input reads as it did. -/
def keepNoneSpec : ChangeSpec := { name := "keepNone", fn := fun _ => fun
  | [d1, d2, d3] => { results := [.lit (.bool true)], args := [d1, d2, d3] }
  | _ => none }
def keepNoneRow : OpenClaim := { program := "ytdmgbgobfkjeiaa", sum := "6a6ce850b58e7695b64e1c730c5a8fdb8329ad5aee2674b3976ece409694f204", func := "epitome/epitomelaw18.KeepNone", spec := "keepNone", apart := false }
def KeepNoneSaid : Prop := keepNoneRow.holds Try.pinned (OpenSpec.ofChange keepNoneSpec)

/-- ITS FALSE NEIGHBOUR: 'it returns false'. Refute it at one input. -/
def keepNoneWrong : ChangeSpec := { name := "keepNone", fn := fun _ => fun
  | [d1, d2, d3] => { results := [.lit (.bool false)], args := [d1, d2, d3] }
  | _ => none }
def KeepNoneWrongFalsely : Prop := keepNoneRow.holds Try.pinned (OpenSpec.ofChange keepNoneWrong)

/-- 'epitomelaw19.SeekAll': WHATEVER THE INPUT: true; the input reads as it did. -/
def seekAllSpec : ChangeSpec := { name := "seekAll", fn := fun _ => fun
  | [d1, d2] => { results := [.lit (.bool true)], args := [d1, d2] }
  | _ => none }
def seekAllRow : OpenClaim := { program := "ytdmgbgobfkjeiaa", sum := "6a6ce850b58e7695b64e1c730c5a8fdb8329ad5aee2674b3976ece409694f204", func := "epitome/epitomelaw19.SeekAll", spec := "seekAll", unfollowed := true, recurses := true, apart := false }
def SeekAllSaid : Prop := seekAllRow.holds Try.pinned (OpenSpec.ofChange seekAllSpec)

/-- ITS FALSE NEIGHBOUR: 'it returns false'. Refute it at one input. -/
def seekAllWrong : ChangeSpec := { name := "seekAll", fn := fun _ => fun
  | [d1, d2] => { results := [.lit (.bool false)], args := [d1, d2] }
  | _ => none }
def SeekAllWrongFalsely : Prop := seekAllRow.holds Try.pinned (OpenSpec.ofChange seekAllWrong)

/-- 'epitomelaw19.SeekEach': WHATEVER THE INPUT: true; the input reads as it did. -/
def seekEachSpec : ChangeSpec := { name := "seekEach", fn := fun _ => fun
  | [d] => { results := [.lit (.bool true)], args := [d] }
  | _ => none }
def seekEachRow : OpenClaim := { program := "ytdmgbgobfkjeiaa", sum := "6a6ce850b58e7695b64e1c730c5a8fdb8329ad5aee2674b3976ece409694f204", func := "epitome/epitomelaw19.SeekEach", spec := "seekEach", unfollowed := true, recurses := true, apart := false }
def SeekEachSaid : Prop := seekEachRow.holds Try.pinned (OpenSpec.ofChange seekEachSpec)

/-- ITS FALSE NEIGHBOUR: 'it returns false'. Refute it at one input. -/
def seekEachWrong : ChangeSpec := { name := "seekEach", fn := fun _ => fun
  | [d] => { results := [.lit (.bool false)], args := [d] }
  | _ => none }
def SeekEachWrongFalsely : Prop := seekEachRow.holds Try.pinned (OpenSpec.ofChange seekEachWrong)

/-- 'epitomelaw19.SeekNear': WHATEVER THE INPUT: true; the input reads as it did. -/
def seekNearSpec : ChangeSpec := { name := "seekNear", fn := fun _ => fun
  | [d1, d2] => { results := [.lit (.bool true)], args := [d1, d2] }
  | _ => none }
def seekNearRow : OpenClaim := { program := "ytdmgbgobfkjeiaa", sum := "6a6ce850b58e7695b64e1c730c5a8fdb8329ad5aee2674b3976ece409694f204", func := "epitome/epitomelaw19.SeekNear", spec := "seekNear", unfollowed := true, recurses := true, apart := false }
def SeekNearSaid : Prop := seekNearRow.holds Try.pinned (OpenSpec.ofChange seekNearSpec)

/-- ITS FALSE NEIGHBOUR: 'it returns false'. Refute it at one input. -/
def seekNearWrong : ChangeSpec := { name := "seekNear", fn := fun _ => fun
  | [d1, d2] => { results := [.lit (.bool false)], args := [d1, d2] }
  | _ => none }
def SeekNearWrongFalsely : Prop := seekNearRow.holds Try.pinned (OpenSpec.ofChange seekNearWrong)

/-- 'epitomelaw19.SeekKept': WHATEVER THE INPUT: true; the input reads as it did. -/
def seekKeptSpec : ChangeSpec := { name := "seekKept", fn := fun _ => fun
  | [d1, d2, d3] => { results := [.lit (.bool true)], args := [d1, d2, d3] }
  | _ => none }
def seekKeptRow : OpenClaim := { program := "ytdmgbgobfkjeiaa", sum := "6a6ce850b58e7695b64e1c730c5a8fdb8329ad5aee2674b3976ece409694f204", func := "epitome/epitomelaw19.SeekKept", spec := "seekKept", unfollowed := true, recurses := true, apart := false }
def SeekKeptSaid : Prop := seekKeptRow.holds Try.pinned (OpenSpec.ofChange seekKeptSpec)

/-- ITS FALSE NEIGHBOUR: 'it returns false'. Refute it at one input. -/
def seekKeptWrong : ChangeSpec := { name := "seekKept", fn := fun _ => fun
  | [d1, d2, d3] => { results := [.lit (.bool false)], args := [d1, d2, d3] }
  | _ => none }
def SeekKeptWrongFalsely : Prop := seekKeptRow.holds Try.pinned (OpenSpec.ofChange seekKeptWrong)

/- THE SECOND FORM. 'bulk': how many values and letters a reading holds, each counted each time it is reached (what is shared counts as often as it is met; a slice's spare places count too). A statement '..UptoSaid' is the law's where the arguments, and the package variables that the reading takes, are together of bulk at most 1048576: NARROWER than '..Said'. Prove '..Said' where nothing that the law and all that it calls make is longer than what came in: it says more and counts as full. Else prove '..UptoSaid'. A law counts once. -/
mutual
def uptoBulk {H : Type} : DataW H → Nat
  | .lit (.string bytes) => bytes.length + 1
  | .lit _ => 1
  | .nil => 1
  | .ptr d => uptoBulk d + 1
  | .slice elems spare => uptoBulkAll elems + uptoBulkAll spare + 1
  | .agg parts => uptoBulkAll parts + 1
  | .iface _ d => uptoBulk d + 1
  | .map entries => uptoBulkEntries entries + 1
  | .held _ => 1
def uptoBulkAll {H : Type} : List (DataW H) → Nat
  | [] => 0
  | d :: r => uptoBulk d + uptoBulkAll r
def uptoBulkEntries {H : Type} : List (Lit × DataW H) → Nat
  | [] => 0
  | x :: r => uptoBulkEntry x + uptoBulkEntries r
def uptoBulkEntry {H : Type} : Lit × DataW H → Nat
  | (.string bytes, d) => bytes.length + uptoBulk d + 1
  | (_, d) => uptoBulk d + 1
 end
def uptoSmall : (H : Type) → List (DataW H) → Bool := fun _ ds => decide (uptoBulkAll ds ≤ 1048576)
def OpenSpec.upto (s : _root_.Go.ChangeSpec) : _root_.Go.OpenSpec := { _root_.Go.OpenSpec.ofChange s with cond := some uptoSmall }

/-- 'epitomelaw18.KeepAll', WHERE WHAT IT READS IS OF BULK AT MOST 1048576: true; the input reads as it did. -/
def keepAllUptoRow : OpenClaim := { program := "ytdmgbgobfkjeiaa", sum := "6a6ce850b58e7695b64e1c730c5a8fdb8329ad5aee2674b3976ece409694f204", func := "epitome/epitomelaw18.KeepAll", spec := "keepAll", apart := false, narrowed := true }
def KeepAllUptoSaid : Prop := keepAllUptoRow.holds Try.pinned (OpenSpec.upto keepAllSpec)

/-- 'epitomelaw18.KeepBounds', WHERE WHAT IT READS IS OF BULK AT MOST 1048576: true; the input reads as it did. -/
def keepBoundsUptoRow : OpenClaim := { program := "ytdmgbgobfkjeiaa", sum := "6a6ce850b58e7695b64e1c730c5a8fdb8329ad5aee2674b3976ece409694f204", func := "epitome/epitomelaw18.KeepBounds", spec := "keepBounds", apart := false, narrowed := true }
def KeepBoundsUptoSaid : Prop := keepBoundsUptoRow.holds Try.pinned (OpenSpec.upto keepBoundsSpec)

/-- 'epitomelaw18.KeepTwice', WHERE WHAT IT READS IS OF BULK AT MOST 1048576: true; the input reads as it did. -/
def keepTwiceUptoRow : OpenClaim := { program := "ytdmgbgobfkjeiaa", sum := "6a6ce850b58e7695b64e1c730c5a8fdb8329ad5aee2674b3976ece409694f204", func := "epitome/epitomelaw18.KeepTwice", spec := "keepTwice", apart := false, narrowed := true }
def KeepTwiceUptoSaid : Prop := keepTwiceUptoRow.holds Try.pinned (OpenSpec.upto keepTwiceSpec)

/-- 'epitomelaw18.KeepNone', WHERE WHAT IT READS IS OF BULK AT MOST 1048576: true; the input reads as it did. -/
def keepNoneUptoRow : OpenClaim := { program := "ytdmgbgobfkjeiaa", sum := "6a6ce850b58e7695b64e1c730c5a8fdb8329ad5aee2674b3976ece409694f204", func := "epitome/epitomelaw18.KeepNone", spec := "keepNone", apart := false, narrowed := true }
def KeepNoneUptoSaid : Prop := keepNoneUptoRow.holds Try.pinned (OpenSpec.upto keepNoneSpec)

/-- 'epitomelaw19.SeekAll', WHERE WHAT IT READS IS OF BULK AT MOST 1048576: true; the input reads as it did. -/
def seekAllUptoRow : OpenClaim := { program := "ytdmgbgobfkjeiaa", sum := "6a6ce850b58e7695b64e1c730c5a8fdb8329ad5aee2674b3976ece409694f204", func := "epitome/epitomelaw19.SeekAll", spec := "seekAll", unfollowed := true, recurses := true, apart := false, narrowed := true }
def SeekAllUptoSaid : Prop := seekAllUptoRow.holds Try.pinned (OpenSpec.upto seekAllSpec)

/-- 'epitomelaw19.SeekEach', WHERE WHAT IT READS IS OF BULK AT MOST 1048576: true; the input reads as it did. -/
def seekEachUptoRow : OpenClaim := { program := "ytdmgbgobfkjeiaa", sum := "6a6ce850b58e7695b64e1c730c5a8fdb8329ad5aee2674b3976ece409694f204", func := "epitome/epitomelaw19.SeekEach", spec := "seekEach", unfollowed := true, recurses := true, apart := false, narrowed := true }
def SeekEachUptoSaid : Prop := seekEachUptoRow.holds Try.pinned (OpenSpec.upto seekEachSpec)

/-- 'epitomelaw19.SeekNear', WHERE WHAT IT READS IS OF BULK AT MOST 1048576: true; the input reads as it did. -/
def seekNearUptoRow : OpenClaim := { program := "ytdmgbgobfkjeiaa", sum := "6a6ce850b58e7695b64e1c730c5a8fdb8329ad5aee2674b3976ece409694f204", func := "epitome/epitomelaw19.SeekNear", spec := "seekNear", unfollowed := true, recurses := true, apart := false, narrowed := true }
def SeekNearUptoSaid : Prop := seekNearUptoRow.holds Try.pinned (OpenSpec.upto seekNearSpec)

/-- 'epitomelaw19.SeekKept', WHERE WHAT IT READS IS OF BULK AT MOST 1048576: true; the input reads as it did. -/
def seekKeptUptoRow : OpenClaim := { program := "ytdmgbgobfkjeiaa", sum := "6a6ce850b58e7695b64e1c730c5a8fdb8329ad5aee2674b3976ece409694f204", func := "epitome/epitomelaw19.SeekKept", spec := "seekKept", unfollowed := true, recurses := true, apart := false, narrowed := true }
def SeekKeptUptoSaid : Prop := seekKeptUptoRow.holds Try.pinned (OpenSpec.upto seekKeptSpec)

end Rows
end Go.Proofs.Ytdmgbgobfkjeiaa
