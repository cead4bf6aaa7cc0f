import Derived.Test.YthhgobiaecehbaaDoorKCFuseOneE
import Derived.Below
import Derived.Deep.Draws
import Derived.Deep.AppendLies
import Derived.Maps.AppendAt
import Derived.OwnWalk
import Derived.Laws.BytesArg
import Derived.Laws.MakeOwn
import Derived.Laws.OwnMore
import Derived.Deep.OwnRows
import Derived.Tactics
import Derived.Lib.ConvBytes
import Derived.Laws.Slices
import Derived.WalkKit
import Derived.KernelRfl
import Derived.RowKit3
import Derived.Deep.LoopGhost
import Derived.Deep.QuietTactic
import Derived.BigQuiet
import Derived.WideLaws
import Derived.Deep.DeepCutAuto
import Derived.Deep.CutBlock
import Derived.Deep.RegionHeld3
import Derived.Laws.Rows
import Derived.Lib.AppendStr
import Derived.ArgAppend
import Derived.Laws.IdiomCopy
import Derived.RowKit
import Derived.OrdersHeld
import Derived.Laws.BitsLemmas
import Derived.Laws.StructEq
import Derived.Test.YthhgobiaecehbaaDoorProg
import Derived.Handy
import Derived.Shelf.Unicode.DecodeSlow
import Derived.Ground.NamesProg
import Derived.Shelf.Unicode.ValidAny
import Derived.Laws.RangeString
import Derived.Laws.RangeAny
import Derived.Lib.RuneCount
import Derived.Laws.IdiomStrings
import Derived.Laws.Cover4
import Derived.Great.BuildSlice
section
namespace Go.Proofs.YthhgobiaecehbaaDoor.F
open Go.RowKit Go.Proofs.YthhgobiaecehbaaDoorW.PrintWords Go.Proofs.YthhgobiaecehbaaDoorW.PrintLast Go.Proofs.YthhgobiaecehbaaDoorW.PrintMore
attribute [local go_sem] max2_int min2_int max_two min_two max_three min_three max_four min_four cell_setCell_isSome
set_option linter.unusedVariables false
set_option linter.unusedSimpArgs false
mutual
def epitomeref04_Chain.l0 : Nat → List (List (S41)) → Int → List (List (S41)) → Int → Option ((List (List (S41))))
  | 0, _, _, _, _ => none
  | k + 1, x0, x1, x5, x6 => if x6 < (x0.length : Int) then (epitomeref04_Chain.j1 k x0 x1 x5 x6 (decide (x6 < 20))) else (epitomeref04_Chain.j1 k x0 x1 x5 x6 false)
def epitomeref04_Chain.j1 : Nat → List (List (S41)) → Int → List (List (S41)) → Int → Bool → Option ((List (List (S41))))
  | 0, _, _, _, _, _ => none
  | k + 1, x0, x1, x5, x6, x16 => if x16 = true then (if 0 ≤ x6 then (if x6 < (x0.length : Int) then ((epitomeref04_Fit.f k (rd_L3 x0 x6) x1).bind fun t105 => (if x5.length < 5864062014805 then ((epitomeref04_Out.f k t105).bind fun t111 => (epitomeref04_Chain.l0 k x0 t111 (x5 ++ [t105]) (wrap64 (x6 + 1)))) else (none))) else (none)) else (none)) else (some x5)
end
theorem epitomeref04_Chain.mono_l : ∀ k, (∀ y0 y1 y2 y3, LeO (epitomeref04_Chain.l0 k y0 y1 y2 y3) (epitomeref04_Chain.l0 (k + 1) y0 y1 y2 y3)) ∧ (∀ y0 y1 y2 y3 y4, LeO (epitomeref04_Chain.j1 k y0 y1 y2 y3 y4) (epitomeref04_Chain.j1 (k + 1) y0 y1 y2 y3 y4))
  | 0 => ⟨fun _ _ _ _ r h => by simp [epitomeref04_Chain.l0] at h, fun _ _ _ _ _ r h => by simp [epitomeref04_Chain.j1] at h⟩
  | k + 1 => by
    obtain ⟨ih0, ih1⟩ := epitomeref04_Chain.mono_l k
    refine ⟨?_, ?_⟩
    · intro y0 y1 y2 y3
      unfold epitomeref04_Chain.l0
      repeat' first
      | (with_reducible exact ih0 _ _ _ _)
      | (with_reducible exact ih1 _ _ _ _ _)
      | (with_reducible exact epitomeref04_Fit.mono _ _ _)
      | (with_reducible exact epitomeref04_Out.mono _ _)
      | (with_reducible exact LeO.refl _)
      | (with_reducible exact LeO.none _)
      | (with_reducible refine LeO.ite ?_ ?_)
      | (with_reducible refine LeO.bind ?_ (fun _ => ?_))
      | exact ih0 _ _ _ _
      | exact ih1 _ _ _ _ _
      | exact epitomeref04_Fit.mono _ _ _
      | exact epitomeref04_Out.mono _ _
      | exact LeO.none _
      | refine LeO.ite ?_ ?_
      | refine LeO.bind ?_ (fun _ => ?_)
    · intro y0 y1 y2 y3 y4
      unfold epitomeref04_Chain.j1
      repeat' first
      | (with_reducible exact ih0 _ _ _ _)
      | (with_reducible exact ih1 _ _ _ _ _)
      | (with_reducible exact epitomeref04_Fit.mono _ _ _)
      | (with_reducible exact epitomeref04_Out.mono _ _)
      | (with_reducible exact LeO.refl _)
      | (with_reducible exact LeO.none _)
      | (with_reducible refine LeO.ite ?_ ?_)
      | (with_reducible refine LeO.bind ?_ (fun _ => ?_))
      | exact ih0 _ _ _ _
      | exact ih1 _ _ _ _ _
      | exact epitomeref04_Fit.mono _ _ _
      | exact epitomeref04_Out.mono _ _
      | exact LeO.none _
      | refine LeO.ite ?_ ?_
      | refine LeO.bind ?_ (fun _ => ?_)
end Go.Proofs.YthhgobiaecehbaaDoor.F
end
section
namespace Go.Proofs.YthhgobiaecehbaaDoor.F
open Go.RowKit Go.Proofs.YthhgobiaecehbaaDoorW.PrintWords Go.Proofs.YthhgobiaecehbaaDoorW.PrintLast Go.Proofs.YthhgobiaecehbaaDoorW.PrintMore
attribute [local go_sem] max2_int min2_int max_two min_two max_three min_three max_four min_four cell_setCell_isSome
set_option linter.unusedVariables false
set_option linter.unusedSimpArgs false
def epitomeref03_In.f (a0_0 : Int) (a0_1 : Int) (a0_2 : ByteArray) : Option (Int) := if a0_0 = 1 then (some a0_1) else (if a0_0 = 3 then (some a0_1) else (some 0))
end Go.Proofs.YthhgobiaecehbaaDoor.F
end
section
namespace Go.Proofs.YthhgobiaecehbaaDoor.F
open Go.RowKit Go.Proofs.YthhgobiaecehbaaDoorW.PrintWords Go.Proofs.YthhgobiaecehbaaDoorW.PrintLast Go.Proofs.YthhgobiaecehbaaDoorW.PrintMore
attribute [local go_sem] max2_int min2_int max_two min_two max_three min_three max_four min_four cell_setCell_isSome
set_option linter.unusedVariables false
set_option linter.unusedSimpArgs false
def epitomeref01_Valid.f (k : Nat) (a0 : ByteArray) : Option (Bool) := (epitomeref01_Starts.f k a0).bind fun bt101 => (some bt101.2)
theorem epitomeref01_Valid.mono : ∀ a0 k, LeO (epitomeref01_Valid.f k a0) (epitomeref01_Valid.f (k + 1) a0) := by
  intro a0 k
  unfold epitomeref01_Valid.f
  repeat' first
      | (with_reducible exact epitomeref01_Starts.mono _ _)
      | (with_reducible exact LeO.refl _)
      | (with_reducible exact LeO.none _)
      | (with_reducible refine LeO.ite ?_ ?_)
      | (with_reducible refine LeO.bind ?_ (fun _ => ?_))
      | exact epitomeref01_Starts.mono _ _
      | exact LeO.none _
      | refine LeO.ite ?_ ?_
      | refine LeO.bind ?_ (fun _ => ?_)
end Go.Proofs.YthhgobiaecehbaaDoor.F
end
section
namespace Go.Proofs.YthhgobiaecehbaaDoor.F
open Go.RowKit Go.Proofs.YthhgobiaecehbaaDoorW.PrintWords Go.Proofs.YthhgobiaecehbaaDoorW.PrintLast Go.Proofs.YthhgobiaecehbaaDoorW.PrintMore
attribute [local go_sem] max2_int min2_int max_two min_two max_three min_three max_four min_four cell_setCell_isSome
set_option linter.unusedVariables false
set_option linter.unusedSimpArgs false
def apply_To.l0 : Nat → List Int → List Int → List (S41) → Int → Int → Option (ByteArray × Int)
  | 0, _, _, _, _, _ => none
  | k + 1, x8, x9, x29, x30, x31 => if x31 < x30 then (if 0 ≤ x31 then (if x31 < (x29.length : Int) then (if ((rd_T41 x29 x31).f0) = 2 then ((str_runes.f ((rd_T41 x29 x31).f2)).bind fun t110 => (if x9.length + t110.length < 35184372088832 then (if 0 ≤ ((rd_T41 x29 x31).f1) then (if ((rd_T41 x29 x31).f1) ≤ (x8.length : Int) then (apply_To.l0 k (x8.drop (((rd_T41 x29 x31).f1) : Int).toNat) (x9 ++ t110) x29 x30 (wrap64 (x31 + 1))) else (none)) else (none)) else (none))) else (if ((rd_T41 x29 x31).f0) = 1 then (if 0 ≤ ((rd_T41 x29 x31).f1) then (if ((rd_T41 x29 x31).f1) ≤ (x8.length : Int) then ((some (x8.take (((rd_T41 x29 x31).f1) : Int).toNat : List Int)).bind fun y119 => (if x9.length + y119.length < 35184372088832 then (apply_To.l0 k (x8.drop (((rd_T41 x29 x31).f1) : Int).toNat) (x9 ++ y119) x29 x30 (wrap64 (x31 + 1))) else (none))) else (none)) else (none)) else (if 0 ≤ ((rd_T41 x29 x31).f1) then (if ((rd_T41 x29 x31).f1) ≤ (x8.length : Int) then (apply_To.l0 k (x8.drop (((rd_T41 x29 x31).f1) : Int).toNat) x9 x29 x30 (wrap64 (x31 + 1))) else (none)) else (none)))) else (none)) else (none)) else ((runes_str.f x9).bind fun t107 => (some (t107, 0)))
def apply_To.f (k : Nat) (l0 : List (S41)) (a1 : ByteArray) : Option (ByteArray × Int) := (op_May.f k l0).bind fun t101 => (if t101 = 0 then ((points_Count.f a1).bind fun t102 => (if t102 < 0 then (some ((⟨#[]⟩ : ByteArray), 3)) else ((op_In.f k l0).bind fun t103 => (if t102 = t103 then ((str_runes.f a1).bind fun t104 => (apply_To.l0 k t104 ([] : List Int) l0 (l0.length : Int) 0)) else (some ((⟨#[]⟩ : ByteArray), 5)))))) else (some ((⟨#[]⟩ : ByteArray), t101)))
theorem apply_To.mono_l : ∀ k, (∀ y0 y1 y2 y3 y4, LeO (apply_To.l0 k y0 y1 y2 y3 y4) (apply_To.l0 (k + 1) y0 y1 y2 y3 y4))
  | 0 => fun _ _ _ _ _ r h => by simp [apply_To.l0] at h
  | k + 1 => by
    have ih0 := apply_To.mono_l k
    · intro y0 y1 y2 y3 y4
      unfold apply_To.l0
      repeat' first
      | (with_reducible exact ih0 _ _ _ _ _)
      | (with_reducible exact op_In.mono _ _)
      | (with_reducible exact op_May.mono _ _)
      | (with_reducible exact LeO.refl _)
      | (with_reducible exact LeO.none _)
      | (with_reducible refine LeO.ite ?_ ?_)
      | (with_reducible refine LeO.bind ?_ (fun _ => ?_))
      | exact ih0 _ _ _ _ _
      | exact op_In.mono _ _
      | exact op_May.mono _ _
      | exact LeO.none _
      | refine LeO.ite ?_ ?_
      | refine LeO.bind ?_ (fun _ => ?_)
theorem apply_To.mono : ∀ a0 a1 k, LeO (apply_To.f k a0 a1) (apply_To.f (k + 1) a0 a1) := by
  intro a0 a1 k
  have ih0 := apply_To.mono_l k
  unfold apply_To.f
  repeat' first
      | (with_reducible exact ih0 _ _ _ _ _)
      | (with_reducible exact op_In.mono _ _)
      | (with_reducible exact op_May.mono _ _)
      | (with_reducible exact LeO.refl _)
      | (with_reducible exact LeO.none _)
      | (with_reducible refine LeO.ite ?_ ?_)
      | (with_reducible refine LeO.bind ?_ (fun _ => ?_))
      | exact ih0 _ _ _ _ _
      | exact op_In.mono _ _
      | exact op_May.mono _ _
      | exact LeO.none _
      | refine LeO.ite ?_ ?_
      | refine LeO.bind ?_ (fun _ => ?_)
end Go.Proofs.YthhgobiaecehbaaDoor.F
end
section
namespace Go.Proofs.YthhgobiaecehbaaDoor.F
open Go.RowKit Go.Proofs.YthhgobiaecehbaaDoorW.PrintWords Go.Proofs.YthhgobiaecehbaaDoorW.PrintLast Go.Proofs.YthhgobiaecehbaaDoorW.PrintMore
attribute [local go_sem] max2_int min2_int max_two min_two max_three min_three max_four min_four cell_setCell_isSome
set_option linter.unusedVariables false
set_option linter.unusedSimpArgs false
mutual
def apply_All.j0 : Nat → ByteArray → List (List (S41)) → Bool → Option (ByteArray × Int)
  | 0, _, _, _ => none
  | k + 1, x0, x1, x17 => if x17 = true then (some ((⟨#[]⟩ : ByteArray), 3)) else (apply_All.l0 k x0 x1 (x1.length : Int) 0)
def apply_All.l0 : Nat → ByteArray → List (List (S41)) → Int → Int → Option (ByteArray × Int)
  | 0, _, _, _, _ => none
  | k + 1, x0, x18, x19, x20 => if x20 < x19 then (if 0 ≤ x20 then (if x20 < (x18.length : Int) then ((apply_To.f k (rd_L3 x18 x20) x0).bind fun bt103 => (if bt103.2 = 0 then (apply_All.l0 k bt103.1 x18 x19 (wrap64 (x20 + 1))) else (some ((⟨#[]⟩ : ByteArray), bt103.2)))) else (none)) else (none)) else (some (x0, 0))
end
theorem apply_All.mono_l : ∀ k, (∀ y0 y1 y2, LeO (apply_All.j0 k y0 y1 y2) (apply_All.j0 (k + 1) y0 y1 y2)) ∧ (∀ y0 y1 y2 y3, LeO (apply_All.l0 k y0 y1 y2 y3) (apply_All.l0 (k + 1) y0 y1 y2 y3))
  | 0 => ⟨fun _ _ _ r h => by simp [apply_All.j0] at h, fun _ _ _ _ r h => by simp [apply_All.l0] at h⟩
  | k + 1 => by
    obtain ⟨ih0, ih1⟩ := apply_All.mono_l k
    refine ⟨?_, ?_⟩
    · intro y0 y1 y2
      unfold apply_All.j0
      repeat' first
      | (with_reducible exact ih0 _ _ _)
      | (with_reducible exact ih1 _ _ _ _)
      | (with_reducible exact apply_To.mono _ _ _)
      | (with_reducible exact LeO.refl _)
      | (with_reducible exact LeO.none _)
      | (with_reducible refine LeO.ite ?_ ?_)
      | (with_reducible refine LeO.bind ?_ (fun _ => ?_))
      | exact ih0 _ _ _
      | exact ih1 _ _ _ _
      | exact apply_To.mono _ _ _
      | exact LeO.none _
      | refine LeO.ite ?_ ?_
      | refine LeO.bind ?_ (fun _ => ?_)
    · intro y0 y1 y2 y3
      unfold apply_All.l0
      repeat' first
      | (with_reducible exact ih0 _ _ _)
      | (with_reducible exact ih1 _ _ _ _)
      | (with_reducible exact apply_To.mono _ _ _)
      | (with_reducible exact LeO.refl _)
      | (with_reducible exact LeO.none _)
      | (with_reducible refine LeO.ite ?_ ?_)
      | (with_reducible refine LeO.bind ?_ (fun _ => ?_))
      | exact ih0 _ _ _
      | exact ih1 _ _ _ _
      | exact apply_To.mono _ _ _
      | exact LeO.none _
      | refine LeO.ite ?_ ?_
      | refine LeO.bind ?_ (fun _ => ?_)
end Go.Proofs.YthhgobiaecehbaaDoor.F
end
section
namespace Go.Proofs.YthhgobiaecehbaaDoor.F
open Go.RowKit Go.Proofs.YthhgobiaecehbaaDoorW.PrintWords Go.Proofs.YthhgobiaecehbaaDoorW.PrintLast Go.Proofs.YthhgobiaecehbaaDoorW.PrintMore
attribute [local go_sem] max2_int min2_int max_two min_two max_three min_three max_four min_four cell_setCell_isSome
set_option linter.unusedVariables false
set_option linter.unusedSimpArgs false
mutual
def epitomeref03_May.j0 : Nat → Int → Bool → Int → Int → ByteArray → Option (Int)
  | 0, _, _, _, _, _ => none
  | k + 1, x4, x5, x102000, x102001, x102002 => if x5 = true then (if x102001 < 0 then (epitomeref03_May.j1 k true x102000 x102001 x102002) else (epitomeref03_May.j1 k (decide (x102001 > 1048576)) x102000 x102001 x102002)) else (if x4 = 2 then (if x102001 = 0 then ((epitomeref01_Valid.f k x102002).bind fun t102 => (if t102 = true then (some 0) else (some 3))) else (some 2)) else (some 1))
def epitomeref03_May.j1 : Nat → Bool → Int → Int → ByteArray → Option (Int)
  | 0, _, _, _, _ => none
  | k + 1, x15, x102000, x102001, x102002 => if x15 = true then (some 2) else (if x102002.toList = ([] : List UInt8) then (some 0) else (some 3))
end
def epitomeref03_May.f (k : Nat) (a0_0 : Int) (a0_1 : Int) (a0_2 : ByteArray) : Option (Int) := if a0_0 = 1 then (epitomeref03_May.j0 k a0_0 (a0_0 == 1) a0_0 a0_1 a0_2) else (epitomeref03_May.j0 k a0_0 (a0_0 == 3) a0_0 a0_1 a0_2)
theorem epitomeref03_May.mono_l : ∀ k, (∀ y0 y1 y2 y3 y4, LeO (epitomeref03_May.j0 k y0 y1 y2 y3 y4) (epitomeref03_May.j0 (k + 1) y0 y1 y2 y3 y4)) ∧ (∀ y0 y1 y2 y3, LeO (epitomeref03_May.j1 k y0 y1 y2 y3) (epitomeref03_May.j1 (k + 1) y0 y1 y2 y3))
  | 0 => ⟨fun _ _ _ _ _ r h => by simp [epitomeref03_May.j0] at h, fun _ _ _ _ r h => by simp [epitomeref03_May.j1] at h⟩
  | k + 1 => by
    obtain ⟨ih0, ih1⟩ := epitomeref03_May.mono_l k
    refine ⟨?_, ?_⟩
    · intro y0 y1 y2 y3 y4
      unfold epitomeref03_May.j0
      repeat' first
      | (with_reducible exact ih0 _ _ _ _ _)
      | (with_reducible exact ih1 _ _ _ _)
      | (with_reducible exact epitomeref01_Valid.mono _ _)
      | (with_reducible exact LeO.refl _)
      | (with_reducible exact LeO.none _)
      | (with_reducible refine LeO.ite ?_ ?_)
      | (with_reducible refine LeO.bind ?_ (fun _ => ?_))
      | exact ih0 _ _ _ _ _
      | exact ih1 _ _ _ _
      | exact epitomeref01_Valid.mono _ _
      | exact LeO.none _
      | refine LeO.ite ?_ ?_
      | refine LeO.bind ?_ (fun _ => ?_)
    · intro y0 y1 y2 y3
      unfold epitomeref03_May.j1
      repeat' first
      | (with_reducible exact ih0 _ _ _ _ _)
      | (with_reducible exact ih1 _ _ _ _)
      | (with_reducible exact epitomeref01_Valid.mono _ _)
      | (with_reducible exact LeO.refl _)
      | (with_reducible exact LeO.none _)
      | (with_reducible refine LeO.ite ?_ ?_)
      | (with_reducible refine LeO.bind ?_ (fun _ => ?_))
      | exact ih0 _ _ _ _ _
      | exact ih1 _ _ _ _
      | exact epitomeref01_Valid.mono _ _
      | exact LeO.none _
      | refine LeO.ite ?_ ?_
      | refine LeO.bind ?_ (fun _ => ?_)
theorem epitomeref03_May.mono : ∀ a0 a1 a2 k, LeO (epitomeref03_May.f k a0 a1 a2) (epitomeref03_May.f (k + 1) a0 a1 a2) := by
  intro a0 a1 a2 k
  obtain ⟨ih0, ih1⟩ := epitomeref03_May.mono_l k
  unfold epitomeref03_May.f
  repeat' first
      | (with_reducible exact ih0 _ _ _ _ _)
      | (with_reducible exact ih1 _ _ _ _)
      | (with_reducible exact epitomeref01_Valid.mono _ _)
      | (with_reducible exact LeO.refl _)
      | (with_reducible exact LeO.none _)
      | (with_reducible refine LeO.ite ?_ ?_)
      | (with_reducible refine LeO.bind ?_ (fun _ => ?_))
      | exact ih0 _ _ _ _ _
      | exact ih1 _ _ _ _
      | exact epitomeref01_Valid.mono _ _
      | exact LeO.none _
      | refine LeO.ite ?_ ?_
      | refine LeO.bind ?_ (fun _ => ?_)
end Go.Proofs.YthhgobiaecehbaaDoor.F
end
section
namespace Go.Proofs.YthhgobiaecehbaaDoor.F
open Go.RowKit Go.Proofs.YthhgobiaecehbaaDoorW.PrintWords Go.Proofs.YthhgobiaecehbaaDoorW.PrintLast Go.Proofs.YthhgobiaecehbaaDoorW.PrintMore
attribute [local go_sem] max2_int min2_int max_two min_two max_three min_three max_four min_four cell_setCell_isSome
set_option linter.unusedVariables false
set_option linter.unusedSimpArgs false
def epitomeref04_In.l0 : Nat → List (S41) → Int → Int → Option (Int)
  | 0, _, _, _ => none
  | k + 1, x0, x3, x4 => if x4 < (x0.length : Int) then (if 0 ≤ x4 then ((epitomeref03_In.f ((rd_T41 x0 x4).f0) ((rd_T41 x0 x4).f1) ((rd_T41 x0 x4).f2)).bind fun t102 => (epitomeref04_In.l0 k x0 (wrap64 (x3 + t102)) (wrap64 (x4 + 1)))) else (none)) else (some x3)
def epitomeref04_In.f (k : Nat) (l0 : List (S41)) : Option (Int) := epitomeref04_In.l0 k l0 0 0
theorem epitomeref04_In.mono_l : ∀ k, (∀ y0 y1 y2, LeO (epitomeref04_In.l0 k y0 y1 y2) (epitomeref04_In.l0 (k + 1) y0 y1 y2))
  | 0 => fun _ _ _ r h => by simp [epitomeref04_In.l0] at h
  | k + 1 => by
    have ih0 := epitomeref04_In.mono_l k
    · intro y0 y1 y2
      unfold epitomeref04_In.l0
      repeat' first
      | (with_reducible exact ih0 _ _ _)
      | (with_reducible exact LeO.refl _)
      | (with_reducible exact LeO.none _)
      | (with_reducible refine LeO.ite ?_ ?_)
      | (with_reducible refine LeO.bind ?_ (fun _ => ?_))
      | exact ih0 _ _ _
      | exact LeO.none _
      | refine LeO.ite ?_ ?_
      | refine LeO.bind ?_ (fun _ => ?_)
theorem epitomeref04_In.mono : ∀ a0 k, LeO (epitomeref04_In.f k a0) (epitomeref04_In.f (k + 1) a0) := by
  intro a0 k
  have ih0 := epitomeref04_In.mono_l k
  unfold epitomeref04_In.f
  repeat' first
      | (with_reducible exact ih0 _ _ _)
      | (with_reducible exact LeO.refl _)
      | (with_reducible exact LeO.none _)
      | (with_reducible refine LeO.ite ?_ ?_)
      | (with_reducible refine LeO.bind ?_ (fun _ => ?_))
      | exact ih0 _ _ _
      | exact LeO.none _
      | refine LeO.ite ?_ ?_
      | refine LeO.bind ?_ (fun _ => ?_)
end Go.Proofs.YthhgobiaecehbaaDoor.F
end
section
namespace Go.Proofs.YthhgobiaecehbaaDoor.F
open Go.RowKit Go.Proofs.YthhgobiaecehbaaDoorW.PrintWords Go.Proofs.YthhgobiaecehbaaDoorW.PrintLast Go.Proofs.YthhgobiaecehbaaDoorW.PrintMore
attribute [local go_sem] max2_int min2_int max_two min_two max_three min_three max_four min_four cell_setCell_isSome
set_option linter.unusedVariables false
set_option linter.unusedSimpArgs false
def epitomeref04_May.l0 : Nat → List (S41) → Int → Option (Int)
  | 0, _, _ => none
  | k + 1, x0, x3 => if x3 < (x0.length : Int) then (if 0 ≤ x3 then ((epitomeref03_May.f k ((rd_T41 x0 x3).f0) ((rd_T41 x0 x3).f1) ((rd_T41 x0 x3).f2)).bind fun t102 => (if t102 = 0 then (epitomeref04_May.l0 k x0 (wrap64 (x3 + 1))) else (some t102))) else (none)) else ((epitomeref04_In.f k x0).bind fun t103 => (if t103 > 1048576 then (some 4) else (some 0)))
theorem epitomeref04_May.mono_l : ∀ k, (∀ y0 y1, LeO (epitomeref04_May.l0 k y0 y1) (epitomeref04_May.l0 (k + 1) y0 y1))
  | 0 => fun _ _ r h => by simp [epitomeref04_May.l0] at h
  | k + 1 => by
    have ih0 := epitomeref04_May.mono_l k
    · intro y0 y1
      unfold epitomeref04_May.l0
      repeat' first
      | (with_reducible exact ih0 _ _)
      | (with_reducible exact epitomeref03_May.mono _ _ _ _)
      | (with_reducible exact epitomeref04_In.mono _ _)
      | (with_reducible exact LeO.refl _)
      | (with_reducible exact LeO.none _)
      | (with_reducible refine LeO.ite ?_ ?_)
      | (with_reducible refine LeO.bind ?_ (fun _ => ?_))
      | exact ih0 _ _
      | exact epitomeref03_May.mono _ _ _ _
      | exact epitomeref04_In.mono _ _
      | exact LeO.none _
      | refine LeO.ite ?_ ?_
      | refine LeO.bind ?_ (fun _ => ?_)
end Go.Proofs.YthhgobiaecehbaaDoor.F
end
