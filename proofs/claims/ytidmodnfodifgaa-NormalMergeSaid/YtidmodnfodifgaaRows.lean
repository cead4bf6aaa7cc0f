/-
  No cell of these rows narrows 'for every input' (looked for: loops, veiled, ifaces, maps, wideKeys, modest, calm, conditions, laid).
  DERIVED. THE GIVEN ROWS OF THIS SEAT. 4 by the template 'for every input the law returns true; each argument reads behind the call as it read before'; 0 by the template 'total and deterministic' (their statements: YtidmodnfodifgaaTotals.lean).
  GIVEN WITH THE SEED: the statements are not yours to turn. If you find one false, say at which input.
  Laid BY PROGRAM, IN A SANDBOX (cutbox-rows.mjs): the forced cells as the released guide's own fill.sh prints them over the translation 0503b9fd93efd18a… (all of the seat's roots in one cut). By AI agents, Wed Nov 11 2026. No macro, syntax, notation, axiom, sorry.
-/
import Derived.Test.YtidmodnfodifgaaChecked
import GoSem.Claim
import GoSem.ClaimJoined
import GoSem.ClaimMapViews
import Derived.JoinedTies
import Derived.KernelRfl
namespace Go.Proofs.Ytidmodnfodifgaa
/- THE CELL 'sum', in the pinned program and in every row, IS THE sha256 OF THE DUMP (.gsa) THAT YtidmodnfodifgaaProg.lean LOADS. Nothing in Lean hashes anything: it is a label: what it is worth is what the hold of that sum in a sandbox is worth. -/
noncomputable def Try.pinned : Pinned := { name := "ytidmodnfodifgaa", sum := "0503b9fd93efd18afdb44ff135945366db3c91c190cb8b08f969f24b3e28b7b0", checked := Try.checked }
namespace Rows
def none {H : Type} : Left H := { results := [], args := [] }

/-- 'epitomelaw05.NormalAll': WHATEVER THE INPUT: true; the input reads as it did. -/
def normalAllSpec : ChangeSpec := { name := "normalAll", fn := fun _ => fun
  | [d1, d2] => { results := [.lit (.bool true)], args := [d1, d2] }
  | _ => none }
def normalAllRow : OpenClaim := { program := "ytidmodnfodifgaa", sum := "0503b9fd93efd18afdb44ff135945366db3c91c190cb8b08f969f24b3e28b7b0", func := "epitome/epitomelaw05.NormalAll", spec := "normalAll", unfollowed := true, recurses := true, apart := false }
def NormalAllSaid : Prop := normalAllRow.holds Try.pinned (OpenSpec.ofChange normalAllSpec)

/-- ITS FALSE NEIGHBOUR: 'it returns false'. Refute it at one input. -/
def normalAllWrong : ChangeSpec := { name := "normalAll", fn := fun _ => fun
  | [d1, d2] => { results := [.lit (.bool false)], args := [d1, d2] }
  | _ => none }
def NormalAllWrongFalsely : Prop := normalAllRow.holds Try.pinned (OpenSpec.ofChange normalAllWrong)

/-- 'epitomelaw05.NormalParts': WHATEVER THE INPUT: true; the input reads as it did. -/
def normalPartsSpec : ChangeSpec := { name := "normalParts", fn := fun _ => fun
  | [d1, d2, d3] => { results := [.lit (.bool true)], args := [d1, d2, d3] }
  | _ => none }
def normalPartsRow : OpenClaim := { program := "ytidmodnfodifgaa", sum := "0503b9fd93efd18afdb44ff135945366db3c91c190cb8b08f969f24b3e28b7b0", func := "epitome/epitomelaw05.NormalParts", spec := "normalParts", unfollowed := true, recurses := true, apart := false }
def NormalPartsSaid : Prop := normalPartsRow.holds Try.pinned (OpenSpec.ofChange normalPartsSpec)

/-- ITS FALSE NEIGHBOUR: 'it returns false'. Refute it at one input. -/
def normalPartsWrong : ChangeSpec := { name := "normalParts", fn := fun _ => fun
  | [d1, d2, d3] => { results := [.lit (.bool false)], args := [d1, d2, d3] }
  | _ => none }
def NormalPartsWrongFalsely : Prop := normalPartsRow.holds Try.pinned (OpenSpec.ofChange normalPartsWrong)

/-- 'epitomelaw05.NormalOrder': WHATEVER THE INPUT: true; the input reads as it did. -/
def normalOrderSpec : ChangeSpec := { name := "normalOrder", fn := fun _ => fun
  | [d1, d2] => { results := [.lit (.bool true)], args := [d1, d2] }
  | _ => none }
def normalOrderRow : OpenClaim := { program := "ytidmodnfodifgaa", sum := "0503b9fd93efd18afdb44ff135945366db3c91c190cb8b08f969f24b3e28b7b0", func := "epitome/epitomelaw05.NormalOrder", spec := "normalOrder", unfollowed := true, recurses := true, apart := false }
def NormalOrderSaid : Prop := normalOrderRow.holds Try.pinned (OpenSpec.ofChange normalOrderSpec)

/-- ITS FALSE NEIGHBOUR: 'it returns false'. Refute it at one input. -/
def normalOrderWrong : ChangeSpec := { name := "normalOrder", fn := fun _ => fun
  | [d1, d2] => { results := [.lit (.bool false)], args := [d1, d2] }
  | _ => none }
def NormalOrderWrongFalsely : Prop := normalOrderRow.holds Try.pinned (OpenSpec.ofChange normalOrderWrong)

/-- 'epitomelaw05.NormalMerge': WHATEVER THE INPUT: true; the input reads as it did. -/
def normalMergeSpec : ChangeSpec := { name := "normalMerge", fn := fun _ => fun
  | [d1, d2, d3] => { results := [.lit (.bool true)], args := [d1, d2, d3] }
  | _ => none }
def normalMergeRow : OpenClaim := { program := "ytidmodnfodifgaa", sum := "0503b9fd93efd18afdb44ff135945366db3c91c190cb8b08f969f24b3e28b7b0", func := "epitome/epitomelaw05.NormalMerge", spec := "normalMerge", unfollowed := true, recurses := true, apart := false }
def NormalMergeSaid : Prop := normalMergeRow.holds Try.pinned (OpenSpec.ofChange normalMergeSpec)

/-- ITS FALSE NEIGHBOUR: 'it returns false'. Refute it at one input. -/
def normalMergeWrong : ChangeSpec := { name := "normalMerge", fn := fun _ => fun
  | [d1, d2, d3] => { results := [.lit (.bool false)], args := [d1, d2, d3] }
  | _ => none }
def NormalMergeWrongFalsely : Prop := normalMergeRow.holds Try.pinned (OpenSpec.ofChange normalMergeWrong)

/- THE SECOND FORM. 'bulk': how many values and letters a reading holds, each counted each time it is reached (what is shared counts as often as it is met; a slice's spare places count too). A statement '..UptoSaid' is the law's where the arguments, and the package variables that the reading takes, are together of bulk at most 1048576: NARROWER than '..Said'. Prove '..Said' where nothing that the law and all that it calls make is longer than what came in: it says more and counts as full. Else prove '..UptoSaid'. A law counts once. -/
mutual
def uptoBulk {H : Type} : DataW H → Nat
  | .lit (.string bytes) => bytes.length + 1
  | .lit _ => 1
  | .nil => 1
  | .ptr d => uptoBulk d + 1
  | .slice elems spare => uptoBulkAll elems + uptoBulkAll spare + 1
  | .agg parts => uptoBulkAll parts + 1
  | .iface _ d => uptoBulk d + 1
  | .map entries => uptoBulkEntries entries + 1
  | .held _ => 1
def uptoBulkAll {H : Type} : List (DataW H) → Nat
  | [] => 0
  | d :: r => uptoBulk d + uptoBulkAll r
def uptoBulkEntries {H : Type} : List (Lit × DataW H) → Nat
  | [] => 0
  | x :: r => uptoBulkEntry x + uptoBulkEntries r
def uptoBulkEntry {H : Type} : Lit × DataW H → Nat
  | (.string bytes, d) => bytes.length + uptoBulk d + 1
  | (_, d) => uptoBulk d + 1
 end
def uptoSmall : (H : Type) → List (DataW H) → Bool := fun _ ds => decide (uptoBulkAll ds ≤ 1048576)
def OpenSpec.upto (s : _root_.Go.ChangeSpec) : _root_.Go.OpenSpec := { _root_.Go.OpenSpec.ofChange s with cond := some uptoSmall }

/-- 'epitomelaw05.NormalAll', WHERE WHAT IT READS IS OF BULK AT MOST 1048576: true; the input reads as it did. -/
def normalAllUptoRow : OpenClaim := { program := "ytidmodnfodifgaa", sum := "0503b9fd93efd18afdb44ff135945366db3c91c190cb8b08f969f24b3e28b7b0", func := "epitome/epitomelaw05.NormalAll", spec := "normalAll", unfollowed := true, recurses := true, apart := false, narrowed := true }
def NormalAllUptoSaid : Prop := normalAllUptoRow.holds Try.pinned (OpenSpec.upto normalAllSpec)

/-- 'epitomelaw05.NormalParts', WHERE WHAT IT READS IS OF BULK AT MOST 1048576: true; the input reads as it did. -/
def normalPartsUptoRow : OpenClaim := { program := "ytidmodnfodifgaa", sum := "0503b9fd93efd18afdb44ff135945366db3c91c190cb8b08f969f24b3e28b7b0", func := "epitome/epitomelaw05.NormalParts", spec := "normalParts", unfollowed := true, recurses := true, apart := false, narrowed := true }
def NormalPartsUptoSaid : Prop := normalPartsUptoRow.holds Try.pinned (OpenSpec.upto normalPartsSpec)

/-- 'epitomelaw05.NormalOrder', WHERE WHAT IT READS IS OF BULK AT MOST 1048576: true; the input reads as it did. -/
def normalOrderUptoRow : OpenClaim := { program := "ytidmodnfodifgaa", sum := "0503b9fd93efd18afdb44ff135945366db3c91c190cb8b08f969f24b3e28b7b0", func := "epitome/epitomelaw05.NormalOrder", spec := "normalOrder", unfollowed := true, recurses := true, apart := false, narrowed := true }
def NormalOrderUptoSaid : Prop := normalOrderUptoRow.holds Try.pinned (OpenSpec.upto normalOrderSpec)

/-- 'epitomelaw05.NormalMerge', WHERE WHAT IT READS IS OF BULK AT MOST 1048576: true; the input reads as it did. -/
def normalMergeUptoRow : OpenClaim := { program := "ytidmodnfodifgaa", sum := "0503b9fd93efd18afdb44ff135945366db3c91c190cb8b08f969f24b3e28b7b0", func := "epitome/epitomelaw05.NormalMerge", spec := "normalMerge", unfollowed := true, recurses := true, apart := false, narrowed := true }
def NormalMergeUptoSaid : Prop := normalMergeUptoRow.holds Try.pinned (OpenSpec.upto normalMergeSpec)

end Rows
end Go.Proofs.Ytidmodnfodifgaa
