import Derived.Test.YthhgobiaecehbaaDoorKCFuseAllD
import Derived.Below
import Derived.Deep.Draws
import Derived.Deep.AppendLies
import Derived.Maps.AppendAt
import Derived.OwnWalk
import Derived.Laws.BytesArg
import Derived.Laws.MakeOwn
import Derived.Laws.OwnMore
import Derived.Deep.OwnRows
import Derived.Tactics
import Derived.Lib.ConvBytes
import Derived.Laws.Slices
import Derived.WalkKit
import Derived.KernelRfl
import Derived.RowKit3
import Derived.Deep.LoopGhost
import Derived.Deep.QuietTactic
import Derived.BigQuiet
import Derived.WideLaws
import Derived.Deep.DeepCutAuto
import Derived.Deep.CutBlock
import Derived.Deep.RegionHeld3
import Derived.Laws.Rows
import Derived.Lib.AppendStr
import Derived.ArgAppend
import Derived.Laws.IdiomCopy
import Derived.RowKit
import Derived.OrdersHeld
import Derived.Laws.BitsLemmas
import Derived.Laws.StructEq
import Derived.Test.YthhgobiaecehbaaDoorProg
import Derived.Handy
import Derived.Shelf.Unicode.DecodeSlow
import Derived.Ground.NamesProg
import Derived.Shelf.Unicode.ValidAny
import Derived.Laws.RangeString
import Derived.Laws.RangeAny
import Derived.Lib.RuneCount
import Derived.Laws.IdiomStrings
import Derived.Laws.Cover4
import Derived.Great.BuildSlice
import Derived.Defers
section
namespace Go.Proofs.YthhgobiaecehbaaDoor.F
open Go.RowKit Go.Proofs.YthhgobiaecehbaaDoorW.PrintWords Go.Proofs.YthhgobiaecehbaaDoorW.PrintLast Go.Proofs.YthhgobiaecehbaaDoorW.PrintMore
attribute [local go_sem] max2_int min2_int max_two min_two max_three min_three max_four min_four cell_setCell_isSome
set_option linter.unusedVariables false
set_option linter.unusedSimpArgs false
open Kd
mutual
def epitomeref09_Of.l0 : Nat → List (S41) → List (S41) → List (S41) → Option ((List (S41)) × Int)
  | 0, _, _, _ => none
  | k + 1, x8, x9, x10 => if (x8.length : Int) > 0 then (epitomeref09_Of.j1 k x8 x9 x10 true) else (epitomeref09_Of.j1 k x8 x9 x10 (decide ((x9.length : Int) > 0)))
def epitomeref09_Of.j1 : Nat → List (S41) → List (S41) → List (S41) → Bool → Option ((List (S41)) × Int)
  | 0, _, _, _, _ => none
  | k + 1, x8, x9, x10, x43 => if x43 = true then (if (x9.length : Int) > 0 then (if 0 < (x9.length : Int) then (epitomeref09_Of.j2 k x8 x9 x10 (((rd_T41 x9 0).f0) == 2)) else (none)) else (epitomeref09_Of.j2 k x8 x9 x10 false)) else ((epitomeref05_Of.f k x10).bind fun t114 => (some (t114, 0)))
def epitomeref09_Of.j2 : Nat → List (S41) → List (S41) → List (S41) → Bool → Option ((List (S41)) × Int)
  | 0, _, _, _, _ => none
  | k + 1, x8, x9, x10, x53 => if x53 = true then (if 0 < (x9.length : Int) then (if x10.length < 4398046511104 then (if 1 ≤ (x9.length : Int) then (epitomeref09_Of.l0 k x8 (x9.drop (1 : Int).toNat) (x10 ++ [(⟨(rd_T41 x9 0).f0, (rd_T41 x9 0).f1, (rd_T41 x9 0).f2⟩ : S41)])) else (none)) else (none)) else (none)) else (if 0 < (x8.length : Int) then (if ((rd_T41 x8 0).f0) = 3 then (if x10.length < 4398046511104 then (if 1 ≤ (x8.length : Int) then (epitomeref09_Of.l0 k (x8.drop (1 : Int).toNat) x9 (x10 ++ [(⟨(rd_T41 x8 0).f0, (rd_T41 x8 0).f1, (rd_T41 x8 0).f2⟩ : S41)])) else (none)) else (none)) else ((epitomeref09_size.f k ((rd_T41 x8 0).f0) ((rd_T41 x8 0).f1) ((rd_T41 x8 0).f2)).bind fun t134 => (if 0 < (x9.length : Int) then ((epitomeref09_size.f k ((rd_T41 x9 0).f0) ((rd_T41 x9 0).f1) ((rd_T41 x9 0).f2)).bind fun t136 => ((epitomeref09_First.f k ((rd_T41 x8 0).f0) ((rd_T41 x8 0).f1) ((rd_T41 x8 0).f2) (mn t134 t136)).bind fun bt138 => ((epitomeref09_First.f k ((rd_T41 x9 0).f0) ((rd_T41 x9 0).f1) ((rd_T41 x9 0).f2) (mn t134 t136)).bind fun bt147 => (if bt147.1 = 1 then (if x10.length < 4398046511104 then (epitomeref09_Of.j3 k x8 x9 (x10 ++ [(⟨bt138.1, bt138.2.1, bt138.2.2.1⟩ : S41)]) bt138.2.2.2.1 bt138.2.2.2.2.1 bt138.2.2.2.2.2 bt147.2.2.2.1 bt147.2.2.2.2.1 bt147.2.2.2.2.2) else (none)) else (if bt138.1 = 1 then (if x10.length < 4398046511104 then (epitomeref09_Of.j3 k x8 x9 (x10 ++ [(⟨bt147.1, bt147.2.1, bt147.2.2.1⟩ : S41)]) bt138.2.2.2.1 bt138.2.2.2.2.1 bt138.2.2.2.2.2 bt147.2.2.2.1 bt147.2.2.2.2.1 bt147.2.2.2.2.2) else (none)) else (epitomeref09_Of.j3 k x8 x9 x10 bt138.2.2.2.1 bt138.2.2.2.2.1 bt138.2.2.2.2.2 bt147.2.2.2.1 bt147.2.2.2.2.1 bt147.2.2.2.2.2)))))) else (none)))) else (none))
def epitomeref09_Of.j3 : Nat → List (S41) → List (S41) → List (S41) → Int → Int → ByteArray → Int → Int → ByteArray → Option ((List (S41)) × Int)
  | 0, _, _, _, _, _, _, _, _, _ => none
  | k + 1, x8, x9, x10, x146000, x146001, x146002, x155000, x155001, x155002 => (some (([(⟨x146000, x146001, x146002⟩ : S41)] : List (S41)) : List (S41))).bind fun y161 => (if 1 ≤ (x8.length : Int) then ((some (x8.drop 1 : List (S41))).bind fun y164 => (if y161.length + y164.length < 4398046511104 then ((some (y161 ++ y164 : List (S41))).bind fun y168 => ((some (([(⟨x155000, x155001, x155002⟩ : S41)] : List (S41)) : List (S41))).bind fun y171 => (if 1 ≤ (x9.length : Int) then ((some (x9.drop 1 : List (S41))).bind fun y174 => (if y171.length + y174.length < 4398046511104 then ((some (y171 ++ y174 : List (S41))).bind fun y178 => ((epitomeref09_size.f k x146000 x146001 x146002).bind fun t181 => (if t181 = 0 then (if 1 ≤ (y168.length : Int) then ((some (y168.drop (1 : Int).toNat : List (S41))).bind fun y182 => ((epitomeref09_size.f k x155000 x155001 x155002).bind fun t185 => (if t185 = 0 then (if 1 ≤ (y178.length : Int) then (epitomeref09_Of.l0 k y182 (y178.drop (1 : Int).toNat) x10) else (none)) else (epitomeref09_Of.l0 k y182 y178 x10)))) else (none)) else ((epitomeref09_size.f k x155000 x155001 x155002).bind fun t189 => (if t189 = 0 then (if 1 ≤ (y178.length : Int) then (epitomeref09_Of.l0 k y168 (y178.drop (1 : Int).toNat) x10) else (none)) else (epitomeref09_Of.l0 k y168 y178 x10)))))) else (none))) else (none)))) else (none))) else (none))
end
def epitomeref09_Of.f (k : Nat) (l0 : List (S41)) (l1 : List (S41)) : Option ((List (S41)) × Int) := (epitomeref04_May.f k l0).bind fun t101 => ((epitomeref04_May.f k l1).bind fun t102 => (if t101 = 0 then (if t102 = 0 then ((epitomeref04_Out.f k l0).bind fun t103 => ((epitomeref04_In.f k l1).bind fun t104 => (if t103 = t104 then ((epitomeref05_Of.f k l0).bind fun t105 => ((epitomeref05_Of.f k l1).bind fun t108 => (epitomeref09_Of.l0 k t105 t108 (([] : List (S41)))))) else (some (([] : List (S41)), 5))))) else (some (([] : List (S41)), t102))) else (some (([] : List (S41)), t101))))
theorem epitomeref09_Of.mono_l : ∀ k, (∀ y0 y1 y2, LeO (epitomeref09_Of.l0 k y0 y1 y2) (epitomeref09_Of.l0 (k + 1) y0 y1 y2)) ∧ (∀ y0 y1 y2 y3, LeO (epitomeref09_Of.j1 k y0 y1 y2 y3) (epitomeref09_Of.j1 (k + 1) y0 y1 y2 y3)) ∧ (∀ y0 y1 y2 y3, LeO (epitomeref09_Of.j2 k y0 y1 y2 y3) (epitomeref09_Of.j2 (k + 1) y0 y1 y2 y3)) ∧ (∀ y0 y1 y2 y3 y4 y5 y6 y7 y8, LeO (epitomeref09_Of.j3 k y0 y1 y2 y3 y4 y5 y6 y7 y8) (epitomeref09_Of.j3 (k + 1) y0 y1 y2 y3 y4 y5 y6 y7 y8))
  | 0 => ⟨fun _ _ _ r h => by simp [epitomeref09_Of.l0] at h, fun _ _ _ _ r h => by simp [epitomeref09_Of.j1] at h, fun _ _ _ _ r h => by simp [epitomeref09_Of.j2] at h, fun _ _ _ _ _ _ _ _ _ r h => by simp [epitomeref09_Of.j3] at h⟩
  | k + 1 => by
    obtain ⟨ih0, ih1, ih2, ih3⟩ := epitomeref09_Of.mono_l k
    refine ⟨?_, ?_, ?_, ?_⟩
    · intro y0 y1 y2
      unfold epitomeref09_Of.l0
      repeat' first
      | (with_reducible exact ih0 _ _ _)
      | (with_reducible exact ih1 _ _ _ _)
      | (with_reducible exact ih2 _ _ _ _)
      | (with_reducible exact ih3 _ _ _ _ _ _ _ _ _)
      | (with_reducible exact epitomeref04_In.mono _ _)
      | (with_reducible exact epitomeref04_May.mono _ _)
      | (with_reducible exact epitomeref04_Out.mono _ _)
      | (with_reducible exact epitomeref05_Of.mono _ _)
      | (with_reducible exact epitomeref09_First.mono _ _ _ _ _)
      | (with_reducible exact epitomeref09_size.mono _ _ _ _)
      | (with_reducible exact LeO.refl _)
      | (with_reducible exact LeO.none _)
      | (with_reducible refine LeO.ite ?_ ?_)
      | (with_reducible refine LeO.bind ?_ (fun _ => ?_))
      | exact ih0 _ _ _
      | exact ih1 _ _ _ _
      | exact ih2 _ _ _ _
      | exact ih3 _ _ _ _ _ _ _ _ _
      | exact epitomeref04_In.mono _ _
      | exact epitomeref04_May.mono _ _
      | exact epitomeref04_Out.mono _ _
      | exact epitomeref05_Of.mono _ _
      | exact epitomeref09_First.mono _ _ _ _ _
      | exact epitomeref09_size.mono _ _ _ _
      | exact LeO.none _
      | refine LeO.ite ?_ ?_
      | refine LeO.bind ?_ (fun _ => ?_)
    · intro y0 y1 y2 y3
      unfold epitomeref09_Of.j1
      repeat' first
      | (with_reducible exact ih0 _ _ _)
      | (with_reducible exact ih1 _ _ _ _)
      | (with_reducible exact ih2 _ _ _ _)
      | (with_reducible exact ih3 _ _ _ _ _ _ _ _ _)
      | (with_reducible exact epitomeref04_In.mono _ _)
      | (with_reducible exact epitomeref04_May.mono _ _)
      | (with_reducible exact epitomeref04_Out.mono _ _)
      | (with_reducible exact epitomeref05_Of.mono _ _)
      | (with_reducible exact epitomeref09_First.mono _ _ _ _ _)
      | (with_reducible exact epitomeref09_size.mono _ _ _ _)
      | (with_reducible exact LeO.refl _)
      | (with_reducible exact LeO.none _)
      | (with_reducible refine LeO.ite ?_ ?_)
      | (with_reducible refine LeO.bind ?_ (fun _ => ?_))
      | exact ih0 _ _ _
      | exact ih1 _ _ _ _
      | exact ih2 _ _ _ _
      | exact ih3 _ _ _ _ _ _ _ _ _
      | exact epitomeref04_In.mono _ _
      | exact epitomeref04_May.mono _ _
      | exact epitomeref04_Out.mono _ _
      | exact epitomeref05_Of.mono _ _
      | exact epitomeref09_First.mono _ _ _ _ _
      | exact epitomeref09_size.mono _ _ _ _
      | exact LeO.none _
      | refine LeO.ite ?_ ?_
      | refine LeO.bind ?_ (fun _ => ?_)
    · intro y0 y1 y2 y3
      unfold epitomeref09_Of.j2
      repeat' first
      | (with_reducible exact ih0 _ _ _)
      | (with_reducible exact ih1 _ _ _ _)
      | (with_reducible exact ih2 _ _ _ _)
      | (with_reducible exact ih3 _ _ _ _ _ _ _ _ _)
      | (with_reducible exact epitomeref04_In.mono _ _)
      | (with_reducible exact epitomeref04_May.mono _ _)
      | (with_reducible exact epitomeref04_Out.mono _ _)
      | (with_reducible exact epitomeref05_Of.mono _ _)
      | (with_reducible exact epitomeref09_First.mono _ _ _ _ _)
      | (with_reducible exact epitomeref09_size.mono _ _ _ _)
      | (with_reducible exact LeO.refl _)
      | (with_reducible exact LeO.none _)
      | (with_reducible refine LeO.ite ?_ ?_)
      | (with_reducible refine LeO.bind ?_ (fun _ => ?_))
      | exact ih0 _ _ _
      | exact ih1 _ _ _ _
      | exact ih2 _ _ _ _
      | exact ih3 _ _ _ _ _ _ _ _ _
      | exact epitomeref04_In.mono _ _
      | exact epitomeref04_May.mono _ _
      | exact epitomeref04_Out.mono _ _
      | exact epitomeref05_Of.mono _ _
      | exact epitomeref09_First.mono _ _ _ _ _
      | exact epitomeref09_size.mono _ _ _ _
      | exact LeO.none _
      | refine LeO.ite ?_ ?_
      | refine LeO.bind ?_ (fun _ => ?_)
    · intro y0 y1 y2 y3 y4 y5 y6 y7 y8
      unfold epitomeref09_Of.j3
      repeat' first
      | (with_reducible exact ih0 _ _ _)
      | (with_reducible exact ih1 _ _ _ _)
      | (with_reducible exact ih2 _ _ _ _)
      | (with_reducible exact ih3 _ _ _ _ _ _ _ _ _)
      | (with_reducible exact epitomeref04_In.mono _ _)
      | (with_reducible exact epitomeref04_May.mono _ _)
      | (with_reducible exact epitomeref04_Out.mono _ _)
      | (with_reducible exact epitomeref05_Of.mono _ _)
      | (with_reducible exact epitomeref09_First.mono _ _ _ _ _)
      | (with_reducible exact epitomeref09_size.mono _ _ _ _)
      | (with_reducible exact LeO.refl _)
      | (with_reducible exact LeO.none _)
      | (with_reducible refine LeO.ite ?_ ?_)
      | (with_reducible refine LeO.bind ?_ (fun _ => ?_))
      | exact ih0 _ _ _
      | exact ih1 _ _ _ _
      | exact ih2 _ _ _ _
      | exact ih3 _ _ _ _ _ _ _ _ _
      | exact epitomeref04_In.mono _ _
      | exact epitomeref04_May.mono _ _
      | exact epitomeref04_Out.mono _ _
      | exact epitomeref05_Of.mono _ _
      | exact epitomeref09_First.mono _ _ _ _ _
      | exact epitomeref09_size.mono _ _ _ _
      | exact LeO.none _
      | refine LeO.ite ?_ ?_
      | refine LeO.bind ?_ (fun _ => ?_)
theorem epitomeref09_Of.mono : ∀ a0 a1 k, LeO (epitomeref09_Of.f k a0 a1) (epitomeref09_Of.f (k + 1) a0 a1) := by
  intro a0 a1 k
  obtain ⟨ih0, ih1, ih2, ih3⟩ := epitomeref09_Of.mono_l k
  unfold epitomeref09_Of.f
  repeat' first
      | (with_reducible exact ih0 _ _ _)
      | (with_reducible exact ih1 _ _ _ _)
      | (with_reducible exact ih2 _ _ _ _)
      | (with_reducible exact ih3 _ _ _ _ _ _ _ _ _)
      | (with_reducible exact epitomeref04_In.mono _ _)
      | (with_reducible exact epitomeref04_May.mono _ _)
      | (with_reducible exact epitomeref04_Out.mono _ _)
      | (with_reducible exact epitomeref05_Of.mono _ _)
      | (with_reducible exact epitomeref09_First.mono _ _ _ _ _)
      | (with_reducible exact epitomeref09_size.mono _ _ _ _)
      | (with_reducible exact LeO.refl _)
      | (with_reducible exact LeO.none _)
      | (with_reducible refine LeO.ite ?_ ?_)
      | (with_reducible refine LeO.bind ?_ (fun _ => ?_))
      | exact ih0 _ _ _
      | exact ih1 _ _ _ _
      | exact ih2 _ _ _ _
      | exact ih3 _ _ _ _ _ _ _ _ _
      | exact epitomeref04_In.mono _ _
      | exact epitomeref04_May.mono _ _
      | exact epitomeref04_Out.mono _ _
      | exact epitomeref05_Of.mono _ _
      | exact epitomeref09_First.mono _ _ _ _ _
      | exact epitomeref09_size.mono _ _ _ _
      | exact LeO.none _
      | refine LeO.ite ?_ ?_
      | refine LeO.bind ?_ (fun _ => ?_)
def epitomeref09_Of.T19 : Bool × List (List Nat × List Nat) := (true, [([], []), ([0], [0]), ([1], [1]), ([2], [2]), ([], []), ([4], [4]), ([5], [5]), ([6, 3], [6]), ([3, 7], [3, 7]), ([8, 7, 0, 1, 2, 3, 4, 5, 6, 7, 8], [8])])
def epitomeref09_Of.B19 : List Nat := [0, 1, 3, 7, 0, 16, 48, 127, 255, 511]
theorem epitomeref09_Of.tab19 : rtab .any (opsOf Tryd.f43 19) = epitomeref09_Of.T19 := by kernel_rfl
theorem epitomeref09_Of.bits19 : waitsOk epitomeref09_Of.T19.2 epitomeref09_Of.B19 = true := by kernel_rfl
set_option maxHeartbeats 40000000 in
set_option maxRecDepth 100000 in
theorem epitomeref09_Of.calls (k : Nat) (A0 : Option Addr) (c0 : Nat) (l0 : List (S41)) (A1 : Option Addr) (c1 : Nat) (l1 : List (S41)) (r1 : List (S41)) (r2 : Int) (w : World) (hr0 : Kd.C k41 w A0 l0.length l0) (hc0 : l0.length ≤ c0) (hr1 : Kd.C k41 w A1 l1.length l1) (hc1 : l1.length ≤ c1) (h : epitomeref09_Of.f k l0 l1 = some (r1, r2)) :
  Calls Tryd.prog 43 #[.slice A0 l0.length c0, .slice A1 l1.length c1] w fun e w' => ∃ v0_ : Value, e = .returned (.tuple #[v0_, .int .i64 r2]) ∧ Kd.R k41 41 w' w.heap.size (fun _ => True) v0_ r1 ∧ Below w.heap.size w w' := by
 have hu41 := Tryd.underlying41
 have HR0 := Am hr0;have HC0 := Am hc0;clear hr0 hc0;have HR1 := Am hr1;have HC1 := Am hc1;clear hr1 hc1;have HB := Am (Below.refl w.heap.size w)
 have H : ((epitomeref04_May.f k l0).bind fun t101 => ((epitomeref04_May.f k l1).bind fun t102 => (if t101 = 0 then (if t102 = 0 then ((epitomeref04_Out.f k l0).bind fun t103 => ((epitomeref04_In.f k l1).bind fun t104 => (if t103 = t104 then ((epitomeref05_Of.f k l0).bind fun t105 => ((epitomeref05_Of.f k l1).bind fun t108 => (epitomeref09_Of.l0 k t105 t108 (([] : List (S41)))))) else (some (([] : List (S41)), 5))))) else (some (([] : List (S41)), t102))) else (some (([] : List (S41)), t101))))) = some (r1, r2) := h
 clear h;replace H := Option.bind_eq_some_iff.mp H;obtain ⟨t101, A30, H⟩ := H;replace H : ((epitomeref04_May.f k l1).bind fun t102 => (if t101 = 0 then (if t102 = 0 then ((epitomeref04_Out.f k l0).bind fun t103 => ((epitomeref04_In.f k l1).bind fun t104 => (if t103 = t104 then ((epitomeref05_Of.f k l0).bind fun t105 => ((epitomeref05_Of.f k l1).bind fun t108 => (epitomeref09_Of.l0 k t105 t108 (([] : List (S41)))))) else (some (([] : List (S41)), 5))))) else (some (([] : List (S41)), t102))) else (some (([] : List (S41)), t101)))) = some (r1, r2) := H
 have A3 := Am A30;clear A30;replace H := Option.bind_eq_some_iff.mp H;obtain ⟨t102, A40, H⟩ := H;replace H : (if t101 = 0 then (if t102 = 0 then ((epitomeref04_Out.f k l0).bind fun t103 => ((epitomeref04_In.f k l1).bind fun t104 => (if t103 = t104 then ((epitomeref05_Of.f k l0).bind fun t105 => ((epitomeref05_Of.f k l1).bind fun t108 => (epitomeref09_Of.l0 k t105 t108 (([] : List (S41)))))) else (some (([] : List (S41)), 5))))) else (some (([] : List (S41)), t102))) else (some (([] : List (S41)), t101))) = some (r1, r2) := H
 have A4 := Am A40;clear A40;by_cases c5 : t101 = 0
 ·rw [if_pos c5] at H;have c5b0 : (t101 == 0) = true := beq_iff_eq.mpr c5
  have c5b1 : (t101 != 0) = false := bne_eq_false_iff_eq.mpr c5
  clear c5;by_cases c6 : t102 = 0
  ·rw [if_pos c6] at H;have c6b0 : (t102 == 0) = true := beq_iff_eq.mpr c6
   have c6b1 : (t102 != 0) = false := bne_eq_false_iff_eq.mpr c6
   clear c6;replace H := Option.bind_eq_some_iff.mp H;obtain ⟨t103, A70, H⟩ := H;replace H : ((epitomeref04_In.f k l1).bind fun t104 => (if t103 = t104 then ((epitomeref05_Of.f k l0).bind fun t105 => ((epitomeref05_Of.f k l1).bind fun t108 => (epitomeref09_Of.l0 k t105 t108 (([] : List (S41)))))) else (some (([] : List (S41)), 5)))) = some (r1, r2) := H
   have A7 := Am A70;clear A70;replace H := Option.bind_eq_some_iff.mp H;obtain ⟨t104, A80, H⟩ := H;replace H : (if t103 = t104 then ((epitomeref05_Of.f k l0).bind fun t105 => ((epitomeref05_Of.f k l1).bind fun t108 => (epitomeref09_Of.l0 k t105 t108 (([] : List (S41)))))) else (some (([] : List (S41)), 5))) = some (r1, r2) := H
   have A8 := Am A80;clear A80;by_cases c9 : t103 = t104
   ·rw [if_pos c9] at H;have c9b0 : (t103 == t104) = true := beq_iff_eq.mpr c9
    have c9b1 : (t103 != t104) = false := bne_eq_false_iff_eq.mpr c9
    clear c9;replace H := Option.bind_eq_some_iff.mp H;obtain ⟨t105, A100, H⟩ := H;replace H : ((epitomeref05_Of.f k l1).bind fun t108 => (epitomeref09_Of.l0 k t105 t108 (([] : List (S41))))) = some (r1, r2) := H
    have A10 := Am A100;clear A100;replace H := Option.bind_eq_some_iff.mp H;obtain ⟨t108, A110, H⟩ := H;replace H : (epitomeref09_Of.l0 k t105 t108 (([] : List (S41)))) = some (r1, r2) := H
    have A11 := Am A110;clear A110;obtain ⟨y111, hy111⟩ : ∃ y_ : List (S41), y_ = (([] : List (S41))) := ⟨_, rfl⟩
    replace H : (epitomeref09_Of.l0 k t105 t108 y111) = some (r1, r2) := by first | (rw [hy111]; with_reducible exact H) | (have H2_ := (Option.bind_some _ _).symm.trans H; rw [hy111]; with_reducible exact H2_) | (have H2_ := (Option.bind_some _ _).symm.trans H; with_reducible exact H2_) | with_reducible exact H | (rw [hy111]; exact H) | exact H
    have Ny111 := Am hy111;clear hy111;have H' := Am H
    clear H;go_enter Tryd.func43, Tryd.ntmps43
    go_wp2_with (first | ((with_reducible refine gate_callee (f := 46) rfl ?_); refine goesL_ (some 17) rfl rfl Tryd.func46 (by kernel_rfl) rfl #[.slice A0 l0.length c0] rfl zE ?_; (with_reducible refine (epitomeref04_May.calls k _ _ l0 t101 _ ?side1 ?side2 A3.out).mono ?_); (case side1 => exact zI HR0.out); (case side2 => exact HC0.out); rintro e w12 ⟨rfl, hb⟩; refine ⟨_, rfl, ?_⟩; replace HB := Am (below_step (zB HB) hb); (try clear hb); (try clear A3)) | ((with_reducible refine gate_callee (f := 46) rfl ?_); refine goesL_ (some 19) rfl rfl Tryd.func46 (by kernel_rfl) rfl #[.slice A1 l1.length c1] rfl zE ?_; (with_reducible refine (epitomeref04_May.calls k _ _ l1 t102 _ ?side1 ?side2 A4.out).mono ?_); (case side1 => exact zI (C_below HR1.out HB.out)); (case side2 => exact HC1.out); rintro e w13 ⟨rfl, hb⟩; refine ⟨_, rfl, ?_⟩; replace HB := Am (below_step (zB HB) hb); (try clear hb); (try clear A4)) | ((with_reducible refine gate_callee (f := 48) rfl ?_); refine goesL_ (some 27) rfl rfl Tryd.func48 (by kernel_rfl) rfl #[.slice A0 l0.length c0] rfl zE ?_; (with_reducible refine (epitomeref04_Out.calls k _ _ l0 t103 _ ?side1 ?side2 A7.out).mono ?_); (case side1 => exact zI (C_below HR0.out HB.out)); (case side2 => exact HC0.out); rintro e w14 ⟨rfl, hb⟩; refine ⟨_, rfl, ?_⟩; replace HB := Am (below_step (zB HB) hb); (try clear hb)) | ((with_reducible refine gate_callee (f := 47) rfl ?_); refine goesL_ (some 29) rfl rfl Tryd.func47 (by kernel_rfl) rfl #[.slice A1 l1.length c1] rfl zE ?_; (with_reducible refine (epitomeref04_In.calls k _ _ l1 t104 _ ?side1 ?side2 A8.out).mono ?_); (case side1 => exact zI (C_below HR1.out HB.out)); (case side2 => exact HC1.out); rintro e w15 ⟨rfl, hb⟩; refine ⟨_, rfl, ?_⟩; replace HB := Am (below_step (zB HB) hb); (try clear hb)) | ((with_reducible refine gate_callee (f := 59) rfl ?_); refine goesL_ (some 32) rfl rfl Tryd.func59 (by kernel_rfl) rfl #[.slice A0 l0.length c0] rfl zE ?_; (with_reducible refine (epitomeref05_Of.calls k _ _ l0 t105 _ ?side1 ?side2 A10.out).mono ?_); (case side1 => exact zI (C_below HR0.out HB.out)); (case side2 => exact HC0.out); rintro e w16 ⟨v106, rfl, ho0, hb⟩; refine ⟨_, rfl, ?_⟩; have HO107 := Am (R_lower ho0 (below_size (zB HB)));replace HB := Am (below_step (zB HB) hb); (try clear hb); (try clear ho0); (try clear A10)) | ((with_reducible refine gate_callee (f := 59) rfl ?_); refine goesL_ (some 34) rfl rfl Tryd.func59 (by kernel_rfl) rfl #[.slice A1 l1.length c1] rfl zE ?_; (with_reducible refine (epitomeref05_Of.calls k _ _ l1 t108 _ ?side1 ?side2 A11.out).mono ?_); (case side1 => exact zI (C_below HR1.out HB.out)); (case side2 => exact HC1.out); rintro e w17 ⟨v109, rfl, ho0, hb⟩; refine ⟨_, rfl, ?_⟩; have HO110 := Am (R_lower (zn ho0 HO107) (below_size (zB HB)));replace HO107 := Am (zr HO107 ho0 hb);replace HB := Am (below_step (zB HB) hb); (try clear hb); (try clear ho0); (try clear A11)) | ((with_reducible refine gate_dst (N := 35) rfl ?_); (try (refine gate_guard (by rfl) ?_; dsimp only)); refine R_lit k41 _ 41 ?hg (N := 35) ?hd (xs := ([] : List (S41))) (inner := []) (ok := fun _ => True) (okp := fun _ => True) ?hr ?hp (fun _ hk => hk) trivial (Below.refl _ _) (Nat.le_refl _) (by simp) ?_; (case hd => rfl); (case hg => rfl); (case hr => first | (go_simp; done) | (go_simp; rfl)); (case hp => exact (Reps.none _ _)); intro v112 w18 ho19 hb hg_ hnew_; clear hg_ hnew_; (first | rw [← Ny111.out] at ho19 | (simp only [Int.reduceToNat] at ho19; rw [← Ny111.out] at ho19)); have HO113 := Am (R_lower (zn (zn ho19 HO107) HO110) (below_size (zB HB)));replace HO107 := Am (zr HO107 ho19 hb);replace HO110 := Am (zr HO110 ho19 hb);replace HB := Am (below_step (zB HB) hb); clear hb ho19))
    go_loopg [8, 9, 10] k (fun kq v8 v9 v10 w' => ∃ (x8_1 : List (S41)) (x9_1 : List (S41)) (x10_1 : List (S41)), Aside0 (epitomeref09_Of.l0 kq x8_1 x9_1 x10_1 = some (r1, r2)) ∧ Aside0 (kq ≤ k) ∧ Aside0 (Kd.Q k41 41 w' w.heap.size (fun k_ => some k_ ≠ (v9 : Value).ownBlock ∧ some k_ ≠ (v10 : Value).ownBlock) v8 x8_1) ∧ Aside0 (Kd.Q k41 41 w' w.heap.size (fun k_ => some k_ ≠ (v8 : Value).ownBlock ∧ some k_ ≠ (v10 : Value).ownBlock) v9 x9_1) ∧ Aside0 (Kd.R k41 41 w' w.heap.size (fun k_ => some k_ ≠ (v8 : Value).ownBlock ∧ some k_ ≠ (v9 : Value).ownBlock) v10 x10_1) ∧ Aside0 (Below w.heap.size w w'))
    case atStart => exact ⟨(t105), (t108), (y111), H', ⟨Nat.le_refl _⟩, ⟨Kd.Q_of_R (by (with_reducible repeat (first | apply zA.a | apply zA.n | apply zA.d)); exact R_mono HO107.out (fun _ hk => ⟨hk.1.2, hk.2⟩))⟩, ⟨Kd.Q_of_R (by (with_reducible repeat (first | apply zA.a | apply zA.n | apply zA.d)); exact R_mono HO110.out (fun _ hk => ⟨hk.1.2, hk.2⟩))⟩, ⟨by (with_reducible repeat (first | apply zA.a | apply zA.n | apply zA.d)); exact R_mono HO113.out (fun _ hk => ⟨hk.1.2, hk.2⟩)⟩, ⟨(zB HB)⟩⟩
    case round =>
     clear H';(try clear c1);(try clear p2);(try clear c4);(try clear c5);(try clear c5b0);(try clear c5b1);(try clear c6);(try clear c6b0);(try clear c6b1);(try clear c9);(try clear c9b0);(try clear c9b1);obtain ⟨x8_1, x9_1, x10_1, HA, HK1, HO_8, HO_9, HO_10, HB⟩ := hrel
     cases gk with
     | zero => exact absurd HA.out (by simp [epitomeref09_Of.l0])
     | succ k1 =>
      have H := HA.out;clear HA;simp only [epitomeref09_Of.l0] at H
      have HC20 := Am H;clear H;go_upto_region 12 with (fail)
      go_cut [43] (fun v43 wc => ∃ (kq : Nat) (x43_19 : Bool), v43 = .bool x43_19 ∧ Aside0 (epitomeref09_Of.j1 kq x8_1 x9_1 x10_1 x43_19 = some (r1, r2)) ∧ Aside0 (kq ≤ k1) ∧ Aside0 (Kd.Q k41 41 wc w.heap.size (fun k_ => some k_ ≠ (u9 : Value).ownBlock ∧ some k_ ≠ (u10 : Value).ownBlock) u8 x8_1) ∧ Aside0 (Kd.Q k41 41 wc w.heap.size (fun k_ => some k_ ≠ (u8 : Value).ownBlock ∧ some k_ ≠ (u10 : Value).ownBlock) u9 x9_1) ∧ Aside0 (Kd.R k41 41 wc w.heap.size (fun k_ => some k_ ≠ (u8 : Value).ownBlock ∧ some k_ ≠ (u9 : Value).ownBlock) u10 x10_1) ∧ Aside0 (Below w.heap.size w wc))
      case first =>
       have H := HC20.out;clear HC20;by_cases c21 : (x8_1.length : Int) > 0
       ·rw [if_pos c21] at H;have c21b0 : decide (0 < (x8_1.length : Int)) = true := decide_eq_true c21
        have c21b1 : decide (0 < x8_1.length) = true := decide_eq_true (by omega)
        clear c21;(first | rw [c21b0] | (simp only [i64_w, i32_w]; rw [c21b0]) | skip)
        have H' := Am H
        clear H;obtain ⟨Ao22, co22, eo22, _⟩ := Kd.Q_slice HO_8.out
        subst eo22
        go_wp2
        go_meet
        case rel => exact ⟨_, (true), zG, H', ⟨by have := HK1.out; first | omega | exact Nat.le_refl _⟩, ⟨(zQ HO_8)⟩, ⟨(zQ HO_9)⟩, ⟨(zR HO_10)⟩, ⟨(zB HB)⟩⟩
       ·rw [if_neg c21] at H;have c21b0 : decide (0 < (x8_1.length : Int)) = false := decide_eq_false c21
        have c21b1 : decide (0 < x8_1.length) = false := decide_eq_false (by omega)
        clear c21;(first | rw [c21b0] | (simp only [i64_w, i32_w]; rw [c21b0]) | skip)
        have H' := Am H
        clear H;obtain ⟨Ao23, co23, eo23, _⟩ := Kd.Q_slice HO_8.out
        subst eo23
        obtain ⟨Ao24, co24, eo24, _⟩ := Kd.Q_slice HO_9.out
        subst eo24
        go_wp2
        go_meet
        case rel => exact ⟨_, (decide ((x9_1.length : Int) > 0)), zG, H', ⟨by have := HK1.out; first | omega | exact Nat.le_refl _⟩, ⟨(zQ HO_8)⟩, ⟨(zQ HO_9)⟩, ⟨(zR HO_10)⟩, ⟨(zB HB)⟩⟩
      case rest =>
       clear HC20;(try clear c1);(try clear c2);(try clear p2);(try clear c4);(try clear c5);(try clear c5b0);(try clear c5b1);(try clear c6);(try clear c6b0);(try clear c6b1);(try clear c9);(try clear c9b0);(try clear c9b1);(try clear c21);(try clear c21b0);(try clear c21b1);(try clear p2);obtain ⟨kq, x43_19, rfl, HA, HJ19, HO_8, HO_9, HO_10, HB⟩ := hcut
       cases kq with
       | zero => exact absurd HA.out (by simp [epitomeref09_Of.j1])
       | succ kj19 =>
        have H := HA.out;clear HA;simp only [epitomeref09_Of.j1] at H
        by_cases c25 : x43_19 = true
        ·subst c25
         have H1 : (if (x9_1.length : Int) > 0 then (if 0 < (x9_1.length : Int) then (epitomeref09_Of.j2 kj19 x8_1 x9_1 x10_1 (((rd_T41 x9_1 0).f0) == 2)) else (none)) else (epitomeref09_Of.j2 kj19 x8_1 x9_1 x10_1 false)) = some (r1, r2) := by rw [if_pos rfl] at H; exact H
         clear H;have H := H1
         clear H1;have HC26 := Am H;clear H;go_upto_region 13 with (fail)
         go_cut [53] (fun v53 wc => ∃ (kq : Nat) (x53_25 : Bool), v53 = .bool x53_25 ∧ Aside0 (epitomeref09_Of.j2 kq x8_1 x9_1 x10_1 x53_25 = some (r1, r2)) ∧ Aside0 (kq ≤ kj19) ∧ Aside0 (Kd.Q k41 41 wc w.heap.size (fun k_ => some k_ ≠ (u9 : Value).ownBlock ∧ some k_ ≠ (u10 : Value).ownBlock) u8 x8_1) ∧ Aside0 (Kd.Q k41 41 wc w.heap.size (fun k_ => some k_ ≠ (u8 : Value).ownBlock ∧ some k_ ≠ (u10 : Value).ownBlock) u9 x9_1) ∧ Aside0 (Kd.R k41 41 wc w.heap.size (fun k_ => some k_ ≠ (u8 : Value).ownBlock ∧ some k_ ≠ (u9 : Value).ownBlock) u10 x10_1) ∧ Aside0 (Below w.heap.size w wc))
         case first =>
          have H := HC26.out;clear HC26;by_cases c27 : (x9_1.length : Int) > 0
          ·rw [if_pos c27] at H;have c27b0 : decide (0 < (x9_1.length : Int)) = true := decide_eq_true c27
           have c27b1 : decide (0 < x9_1.length) = true := decide_eq_true (by omega)
           clear c27;(first | rw [c27b0] | (simp only [i64_w, i32_w]; rw [c27b0]) | skip)
           by_cases c28 : 0 < (x9_1.length : Int)
           ·rw [if_pos c28] at H;have c28b0 : decide (0 < (x9_1.length : Int)) = true := decide_eq_true c28
            have c28b1 : decide (0 < x9_1.length) = true := decide_eq_true (by omega)
            clear c28;have H' := Am H
            clear H;obtain ⟨Ao29, co29, eo29, _⟩ := Kd.Q_slice HO_9.out
            subst eo29
            have p117 : 0 ≤ (0 : Int) := (by omega)
            have q117 : 0 < (x9_1.length : Int) := of_decide_eq_true (by assumption)
            obtain ⟨ad117, e117, hx117_0, hx117_1, hx117_2⟩ := at_T41 (Kd.Q_reads' HO_9.out).2.2 0 p117 q117
            cases e117
            have qi117 : (0 < x9_1.length) = True := eq_true (by omega)
            (try rw [zZ] at hx117_0)
            (try rw [zZ] at hx117_1)
            (try rw [zZ] at hx117_2)
            replace p117 := eq_true p117;replace q117 := eq_true q117;go_wp2
            go_meet
            case rel => exact ⟨_, ((((rd_T41 x9_1 0).f0) == 2)), zG, H', ⟨by have := HK1.out; have := HJ19.out; first | omega | exact Nat.le_refl _⟩, ⟨(zQ HO_8)⟩, ⟨(zQ HO_9)⟩, ⟨(zR HO_10)⟩, ⟨(zB HB)⟩⟩
           ·rw [if_neg c28] at H;exact absurd H (by simp)
          ·rw [if_neg c27] at H;have c27b0 : decide (0 < (x9_1.length : Int)) = false := decide_eq_false c27
           have c27b1 : decide (0 < x9_1.length) = false := decide_eq_false (by omega)
           clear c27;(first | rw [c27b0] | (simp only [i64_w, i32_w]; rw [c27b0]) | skip)
           have H' := Am H
           clear H;obtain ⟨Ao30, co30, eo30, _⟩ := Kd.Q_slice HO_9.out
           subst eo30
           go_wp2
           go_meet
           case rel => exact ⟨_, (false), zG, H', ⟨by have := HK1.out; have := HJ19.out; first | omega | exact Nat.le_refl _⟩, ⟨(zQ HO_8)⟩, ⟨(zQ HO_9)⟩, ⟨(zR HO_10)⟩, ⟨(zB HB)⟩⟩
         case rest =>
          clear HC26;(try clear c1);(try clear p1);(try clear q1);(try clear hx1);(try clear qi1);(try clear c2);(try clear p2);(try clear c4);(try clear c5);(try clear c5b0);(try clear c5b1);(try clear c6);(try clear c6b0);(try clear c6b1);(try clear c9);(try clear c9b0);(try clear c9b1);(try clear p11);(try clear q11);(try clear hx11);(try clear qi11);(try clear c21);(try clear c21b0);(try clear c21b1);(try clear c25);(try clear c27);(try clear c27b0);(try clear c27b1);(try clear c28);(try clear c28b0);(try clear c28b1);(try clear hx117_0);(try clear hx117_1);(try clear hx117_2);(try clear p117);(try clear p2);(try clear q117);obtain ⟨kq, x53_25, rfl, HA, HJ25, HO_8, HO_9, HO_10, HB⟩ := hcut
          cases kq with
          | zero => exact absurd HA.out (by simp [epitomeref09_Of.j2])
          | succ kj25 =>
           have H := HA.out;clear HA;simp only [epitomeref09_Of.j2] at H
           by_cases c31 : x53_25 = true
           ·subst c31
            have H1 : (if 0 < (x9_1.length : Int) then (if x10_1.length < 4398046511104 then (if 1 ≤ (x9_1.length : Int) then (epitomeref09_Of.l0 kj25 x8_1 (x9_1.drop (1 : Int).toNat) (x10_1 ++ [(⟨(rd_T41 x9_1 0).f0, (rd_T41 x9_1 0).f1, (rd_T41 x9_1 0).f2⟩ : S41)])) else (none)) else (none)) else (none)) = some (r1, r2) := by rw [if_pos rfl] at H; exact H
            clear H;have H := H1
            clear H1;by_cases c32 : 0 < (x9_1.length : Int)
            ·rw [if_pos c32] at H;have c32b0 : decide (0 < (x9_1.length : Int)) = true := decide_eq_true c32
             have c32b1 : decide (0 < x9_1.length) = true := decide_eq_true (by omega)
             clear c32;by_cases c33 : x10_1.length < 4398046511104
             ·rw [if_pos c33] at H;have LMc33 := Am c33;clear c33;obtain ⟨y119, hy119⟩ : ∃ y_ : List (S41), y_ = (x10_1 ++ [(⟨(rd_T41 x9_1 0).f0, (rd_T41 x9_1 0).f1, (rd_T41 x9_1 0).f2⟩ : S41)]) := ⟨_, rfl⟩
              replace H : (if 1 ≤ (x9_1.length : Int) then (epitomeref09_Of.l0 kj25 x8_1 (x9_1.drop (1 : Int).toNat) y119) else (none)) = some (r1, r2) := by first | (rw [hy119]; with_reducible exact H) | (have H2_ := (Option.bind_some _ _).symm.trans H; rw [hy119]; with_reducible exact H2_) | (have H2_ := (Option.bind_some _ _).symm.trans H; with_reducible exact H2_) | with_reducible exact H | (rw [hy119]; exact H) | exact H
              have Ny119 := Am hy119;clear hy119;by_cases c34 : 1 ≤ (x9_1.length : Int)
              ·rw [if_pos c34] at H;have c34b0 := eq_true c34
               have c34b1 : decide (1 ≤ (x9_1.length : Int)) = true := decide_eq_true c34
               clear c34;obtain ⟨y122, hy122⟩ : ∃ y_ : List (S41), y_ = (x9_1.drop (1 : Int).toNat) := ⟨_, rfl⟩
               replace H : (epitomeref09_Of.l0 kj25 x8_1 y122 y119) = some (r1, r2) := by first | (rw [hy122]; with_reducible exact H) | (have H2_ := (Option.bind_some _ _).symm.trans H; rw [hy122]; with_reducible exact H2_) | (have H2_ := (Option.bind_some _ _).symm.trans H; with_reducible exact H2_) | with_reducible exact H | (rw [hy122]; exact H) | exact H
               have Ny122 := Am hy122;clear hy122;have H' := Am H
               clear H;obtain ⟨Ao35, co35, eo35, _⟩ := Kd.Q_slice HO_9.out
               subst eo35
               have p118 : 0 ≤ (0 : Int) := (by omega)
               have q118 : 0 < (x9_1.length : Int) := of_decide_eq_true (by assumption)
               obtain ⟨ad118, e118, hx118_0, hx118_1, hx118_2⟩ := at_T41 (Kd.Q_reads' HO_9.out).2.2 0 p118 q118
               cases e118
               have qi118 : (0 < x9_1.length) = True := eq_true (by omega)
               (try rw [zZ] at hx118_0)
               (try rw [zZ] at hx118_1)
               (try rw [zZ] at hx118_2)
               replace p118 := eq_true p118;replace q118 := eq_true q118;go_wp2_with (first | ((with_reducible refine gate_builtin (b := .append) (xs := #[.tmp 54, .tmp 58]) rfl ?_); (try (refine gate_guard (by rfl) ?_; dsimp only)); at_builtin; refine R_append k41 (w0 := w) w.heap.size rfl (.tmp 54) (.tmp 58) 24 41 (.agg #[(.int .i64 0), (.int .i64 0), (.string ⟨#[]⟩)]) 32 rfl Tryd.underlying24 info41 rfl (by decide) (by omega) u10 x10_1 (⟨(rd_T41 x9_1 0).f0, (rd_T41 x9_1 0).f1, (rd_T41 x9_1 0).f2⟩ : S41) [.int .i64 ((rd_T41 x9_1 0).f0), .int .i64 ((rd_T41 x9_1 0).f1), .string ((rd_T41 x9_1 0).f2)] (fun k_ => some k_ ≠ (u8 : Value).ownBlock ∧ some k_ ≠ (.slice (some ad118) x9_1.length co35 : Value).ownBlock) (fun _ => False) rfl rfl ?aP (fun _ hk => hk.elim) ?aF ?aO ?aB ?aS ?aL ?_; (case aP => exact k41_mkM _ _ _ (⟨(rd_T41 x9_1 0).f0, (rd_T41 x9_1 0).f1, (rd_T41 x9_1 0).f2⟩ : S41)); (case aB => exact (zB HB)); (case aF => exact (fun k_ hk => ⟨Kd.fresh' (Kd.Q_lt (zQ HO_8)) k_ hk, Kd.fresh' (Kd.Q_lt (zQ HO_9)) k_ hk⟩)); (case aO => exact (zR HO_10)); (case aS => exact (below_size (zB HB))); (case aL => have := LMc33.out; omega); intro v120 w36 ho hb hg hat; rw [← Ny119.out] at ho; replace HO_8 := Am (Kd.Q_after (ok := (fun k_ => some k_ ≠ (.slice (some ad118) x9_1.length co35 : Value).ownBlock)) (zQ HO_8) hg hat);replace HO_9 := Am (Kd.Q_after (ok := (fun k_ => some k_ ≠ (u8 : Value).ownBlock)) (zQ HO_9) hg hat);replace HB := Am (hb);have HO121 := Am (ho);clear HO_10; clear ho hb hg hat; have q37 : (1 : Int) ≤ ((x9_1.length : Int) : Int) := of_decide_eq_true (by assumption); obtain ⟨i037, hi037, _, hsz37, _⟩ := info_parts info41; have hcut37 := cut_from (P := Tryd.prog) 24 41 .i64 Tryd.underlying24 hi037 3 hsz37 (some ad118) x9_1.length co35 1 (by omega) q37; have hr37 := Kd.Q_drop (k := (1 : Int).toNat) HO_9.out (by omega); obtain ⟨A37, hA37⟩ : ∃ A1, A1 = (if co35 = (1 : Int).toNat then (some ad118) else ((some ad118) : Option Addr).map (·.add ((1 : Int).toNat * 3))) := ⟨_, rfl⟩; obtain ⟨c37, hc37⟩ : ∃ c1, c1 = co35 - (1 : Int).toNat := ⟨_, rfl⟩; have hy37 : y122.length = x9_1.length - (1 : Int).toNat := (by rw [Ny122.out, List.length_drop]); rw [← Ny122.out] at hr37; rw [← hy37, ← hA37, ← hc37] at hcut37; replace hr37 : Kd.Q k41 41 w36 w.heap.size (fun k_ => some k_ ≠ (u8 : Value).ownBlock ∧ some k_ ≠ (v120 : Value).ownBlock) (.slice A37 y122.length c37) y122 := (by rw [hA37, hc37, hy37]; exact hr37); have HE37 : Aside0 ((Value.slice A37 y122.length c37).ownBlock = (.slice (some ad118) x9_1.length co35 : Value).ownBlock) := ⟨by rw [hA37]; split <;> (cases ((some ad118) : Option Addr) <;> rfl)⟩; clear hy37 hi037 hsz37 HO_9 hA37 hc37; have HO124 := Am hr37; clear hr37; replace q37 := eq_true q37; have n_ := Am (Kd.Q_mono (ok' := fun k_ => (some k_ ≠ (.slice A37 y122.length c37 : Value).ownBlock ∧ some k_ ≠ (v120 : Value).ownBlock)) HO_8.out (fun k_ hk => ⟨(by rw [HE37.out]; exact hk.1), hk.2⟩)); clear HO_8; have HO_8 := n_; clear n_; have n_ := Am (R_mono (ok' := fun k_ => (some k_ ≠ (u8 : Value).ownBlock ∧ some k_ ≠ (.slice A37 y122.length c37 : Value).ownBlock)) HO121.out (fun k_ hk => ⟨hk.1, (by rw [HE37.out]; exact hk.2)⟩)); clear HO121; have HO121 := n_; clear n_))
               go_roundg kj25
               case measure => have := HK1.out; have := HJ19.out; have := HJ25.out; omega
               case rel => exact ⟨(x8_1), (y122), (y119), H', ⟨by have := HK1.out; have := HJ19.out; have := HJ25.out; omega⟩, ⟨(zQ HO_8)⟩, ⟨(zQ HO124)⟩, ⟨(zR HO121)⟩, ⟨(zB HB)⟩⟩
              ·rw [if_neg c34] at H;exact absurd H (by simp)
             ·rw [if_neg c33] at H;exact absurd H (by simp)
            ·rw [if_neg c32] at H;exact absurd H (by simp)
           ·replace c31 := Bool.eq_false_iff.mpr c31
            subst c31
            have H1 : (if 0 < (x8_1.length : Int) then (if ((rd_T41 x8_1 0).f0) = 3 then (if x10_1.length < 4398046511104 then (if 1 ≤ (x8_1.length : Int) then (epitomeref09_Of.l0 kj25 (x8_1.drop (1 : Int).toNat) x9_1 (x10_1 ++ [(⟨(rd_T41 x8_1 0).f0, (rd_T41 x8_1 0).f1, (rd_T41 x8_1 0).f2⟩ : S41)])) else (none)) else (none)) else ((epitomeref09_size.f kj25 ((rd_T41 x8_1 0).f0) ((rd_T41 x8_1 0).f1) ((rd_T41 x8_1 0).f2)).bind fun t134 => (if 0 < (x9_1.length : Int) then ((epitomeref09_size.f kj25 ((rd_T41 x9_1 0).f0) ((rd_T41 x9_1 0).f1) ((rd_T41 x9_1 0).f2)).bind fun t136 => ((epitomeref09_First.f kj25 ((rd_T41 x8_1 0).f0) ((rd_T41 x8_1 0).f1) ((rd_T41 x8_1 0).f2) (mn t134 t136)).bind fun bt138 => ((epitomeref09_First.f kj25 ((rd_T41 x9_1 0).f0) ((rd_T41 x9_1 0).f1) ((rd_T41 x9_1 0).f2) (mn t134 t136)).bind fun bt147 => (if bt147.1 = 1 then (if x10_1.length < 4398046511104 then (epitomeref09_Of.j3 kj25 x8_1 x9_1 (x10_1 ++ [(⟨bt138.1, bt138.2.1, bt138.2.2.1⟩ : S41)]) bt138.2.2.2.1 bt138.2.2.2.2.1 bt138.2.2.2.2.2 bt147.2.2.2.1 bt147.2.2.2.2.1 bt147.2.2.2.2.2) else (none)) else (if bt138.1 = 1 then (if x10_1.length < 4398046511104 then (epitomeref09_Of.j3 kj25 x8_1 x9_1 (x10_1 ++ [(⟨bt147.1, bt147.2.1, bt147.2.2.1⟩ : S41)]) bt138.2.2.2.1 bt138.2.2.2.2.1 bt138.2.2.2.2.2 bt147.2.2.2.1 bt147.2.2.2.2.1 bt147.2.2.2.2.2) else (none)) else (epitomeref09_Of.j3 kj25 x8_1 x9_1 x10_1 bt138.2.2.2.1 bt138.2.2.2.2.1 bt138.2.2.2.2.2 bt147.2.2.2.1 bt147.2.2.2.2.1 bt147.2.2.2.2.2)))))) else (none)))) else (none)) = some (r1, r2) := by rw [if_neg (show ¬ (false = true) by decide)] at H; exact H
            clear H;have H := H1
            clear H1;by_cases c38 : 0 < (x8_1.length : Int)
            ·rw [if_pos c38] at H;have c38b0 : decide (0 < (x8_1.length : Int)) = true := decide_eq_true c38
             have c38b1 : decide (0 < x8_1.length) = true := decide_eq_true (by omega)
             clear c38;by_cases c39 : ((rd_T41 x8_1 0).f0) = 3
             ·rw [if_pos c39] at H;have c39b0 : (((rd_T41 x8_1 0).f0) == 3) = true := beq_iff_eq.mpr c39
              have c39b1 : (((rd_T41 x8_1 0).f0) != 3) = false := bne_eq_false_iff_eq.mpr c39
              clear c39;by_cases c40 : x10_1.length < 4398046511104
              ·rw [if_pos c40] at H;have LMc40 := Am c40;clear c40;obtain ⟨y127, hy127⟩ : ∃ y_ : List (S41), y_ = (x10_1 ++ [(⟨(rd_T41 x8_1 0).f0, (rd_T41 x8_1 0).f1, (rd_T41 x8_1 0).f2⟩ : S41)]) := ⟨_, rfl⟩
               replace H : (if 1 ≤ (x8_1.length : Int) then (epitomeref09_Of.l0 kj25 (x8_1.drop (1 : Int).toNat) x9_1 y127) else (none)) = some (r1, r2) := by first | (rw [hy127]; with_reducible exact H) | (have H2_ := (Option.bind_some _ _).symm.trans H; rw [hy127]; with_reducible exact H2_) | (have H2_ := (Option.bind_some _ _).symm.trans H; with_reducible exact H2_) | with_reducible exact H | (rw [hy127]; exact H) | exact H
               have Ny127 := Am hy127;clear hy127;by_cases c41 : 1 ≤ (x8_1.length : Int)
               ·rw [if_pos c41] at H;have c41b0 := eq_true c41
                have c41b1 : decide (1 ≤ (x8_1.length : Int)) = true := decide_eq_true c41
                clear c41;obtain ⟨y130, hy130⟩ : ∃ y_ : List (S41), y_ = (x8_1.drop (1 : Int).toNat) := ⟨_, rfl⟩
                replace H : (epitomeref09_Of.l0 kj25 y130 x9_1 y127) = some (r1, r2) := by first | (rw [hy130]; with_reducible exact H) | (have H2_ := (Option.bind_some _ _).symm.trans H; rw [hy130]; with_reducible exact H2_) | (have H2_ := (Option.bind_some _ _).symm.trans H; with_reducible exact H2_) | with_reducible exact H | (rw [hy130]; exact H) | exact H
                have Ny130 := Am hy130;clear hy130;have H' := Am H
                clear H;obtain ⟨Ao42, co42, eo42, _⟩ := Kd.Q_slice HO_8.out
                subst eo42
                have p125 : 0 ≤ (0 : Int) := (by omega)
                have q125 : 0 < (x8_1.length : Int) := of_decide_eq_true (by assumption)
                obtain ⟨ad125, e125, hx125_0, hx125_1, hx125_2⟩ := at_T41 (Kd.Q_reads' HO_8.out).2.2 0 p125 q125
                cases e125
                have qi125 : (0 < x8_1.length) = True := eq_true (by omega)
                (try rw [zZ] at hx125_0)
                (try rw [zZ] at hx125_1)
                (try rw [zZ] at hx125_2)
                replace p125 := eq_true p125;replace q125 := eq_true q125;have p126 : 0 ≤ (0 : Int) := (by omega)
                have q126 : 0 < (x8_1.length : Int) := of_decide_eq_true (by assumption)
                obtain ⟨ad126, e126, hx126_0, hx126_1, hx126_2⟩ := at_T41 (Kd.Q_reads' HO_8.out).2.2 0 p126 q126
                obtain rfl : ad125 = ad126 := (by injection e126)
                have qi126 : (0 < x8_1.length) = True := eq_true (by omega)
                (try rw [zZ] at hx126_0)
                (try rw [zZ] at hx126_1)
                (try rw [zZ] at hx126_2)
                replace p126 := eq_true p126;replace q126 := eq_true q126;go_wp2_with (first | ((with_reducible refine gate_builtin (b := .append) (xs := #[.tmp 67, .tmp 71]) rfl ?_); (try (refine gate_guard (by rfl) ?_; dsimp only)); at_builtin; refine R_append k41 (w0 := w) w.heap.size rfl (.tmp 67) (.tmp 71) 24 41 (.agg #[(.int .i64 0), (.int .i64 0), (.string ⟨#[]⟩)]) 32 rfl Tryd.underlying24 info41 rfl (by decide) (by omega) u10 x10_1 (⟨(rd_T41 x8_1 0).f0, (rd_T41 x8_1 0).f1, (rd_T41 x8_1 0).f2⟩ : S41) [.int .i64 ((rd_T41 x8_1 0).f0), .int .i64 ((rd_T41 x8_1 0).f1), .string ((rd_T41 x8_1 0).f2)] (fun k_ => some k_ ≠ (.slice (some ad125) x8_1.length co42 : Value).ownBlock ∧ some k_ ≠ (u9 : Value).ownBlock) (fun _ => False) rfl rfl ?aP (fun _ hk => hk.elim) ?aF ?aO ?aB ?aS ?aL ?_; (case aP => exact k41_mkM _ _ _ (⟨(rd_T41 x8_1 0).f0, (rd_T41 x8_1 0).f1, (rd_T41 x8_1 0).f2⟩ : S41)); (case aB => exact (zB HB)); (case aF => exact (fun k_ hk => ⟨Kd.fresh' (Kd.Q_lt (zQ HO_8)) k_ hk, Kd.fresh' (Kd.Q_lt (zQ HO_9)) k_ hk⟩)); (case aO => exact (zR HO_10)); (case aS => exact (below_size (zB HB))); (case aL => have := LMc40.out; omega); intro v128 w43 ho hb hg hat; rw [← Ny127.out] at ho; replace HO_8 := Am (Kd.Q_after (ok := (fun k_ => some k_ ≠ (u9 : Value).ownBlock)) (zQ HO_8) hg hat);replace HO_9 := Am (Kd.Q_after (ok := (fun k_ => some k_ ≠ (.slice (some ad125) x8_1.length co42 : Value).ownBlock)) (zQ HO_9) hg hat);replace HB := Am (hb);have HO129 := Am (ho);clear HO_10; clear ho hb hg hat; have q44 : (1 : Int) ≤ ((x8_1.length : Int) : Int) := of_decide_eq_true (by assumption); obtain ⟨i044, hi044, _, hsz44, _⟩ := info_parts info41; have hcut44 := cut_from (P := Tryd.prog) 24 41 .i64 Tryd.underlying24 hi044 3 hsz44 (some ad125) x8_1.length co42 1 (by omega) q44; have hr44 := Kd.Q_drop (k := (1 : Int).toNat) HO_8.out (by omega); obtain ⟨A44, hA44⟩ : ∃ A1, A1 = (if co42 = (1 : Int).toNat then (some ad125) else ((some ad125) : Option Addr).map (·.add ((1 : Int).toNat * 3))) := ⟨_, rfl⟩; obtain ⟨c44, hc44⟩ : ∃ c1, c1 = co42 - (1 : Int).toNat := ⟨_, rfl⟩; have hy44 : y130.length = x8_1.length - (1 : Int).toNat := (by rw [Ny130.out, List.length_drop]); rw [← Ny130.out] at hr44; rw [← hy44, ← hA44, ← hc44] at hcut44; replace hr44 : Kd.Q k41 41 w43 w.heap.size (fun k_ => some k_ ≠ (u9 : Value).ownBlock ∧ some k_ ≠ (v128 : Value).ownBlock) (.slice A44 y130.length c44) y130 := (by rw [hA44, hc44, hy44]; exact hr44); have HE44 : Aside0 ((Value.slice A44 y130.length c44).ownBlock = (.slice (some ad125) x8_1.length co42 : Value).ownBlock) := ⟨by rw [hA44]; split <;> (cases ((some ad125) : Option Addr) <;> rfl)⟩; clear hy44 hi044 hsz44 HO_8 hA44 hc44; have HO132 := Am hr44; clear hr44; replace q44 := eq_true q44; have n_ := Am (Kd.Q_mono (ok' := fun k_ => (some k_ ≠ (.slice A44 y130.length c44 : Value).ownBlock ∧ some k_ ≠ (v128 : Value).ownBlock)) HO_9.out (fun k_ hk => ⟨(by rw [HE44.out]; exact hk.1), hk.2⟩)); clear HO_9; have HO_9 := n_; clear n_; have n_ := Am (R_mono (ok' := fun k_ => (some k_ ≠ (.slice A44 y130.length c44 : Value).ownBlock ∧ some k_ ≠ (u9 : Value).ownBlock)) HO129.out (fun k_ hk => ⟨(by rw [HE44.out]; exact hk.1), hk.2⟩)); clear HO129; have HO129 := n_; clear n_))
                go_roundg kj25
                case measure => have := HK1.out; have := HJ19.out; have := HJ25.out; omega
                case rel => exact ⟨(y130), (x9_1), (y127), H', ⟨by have := HK1.out; have := HJ19.out; have := HJ25.out; omega⟩, ⟨(zQ HO132)⟩, ⟨(zQ HO_9)⟩, ⟨(zR HO129)⟩, ⟨(zB HB)⟩⟩
               ·rw [if_neg c41] at H;exact absurd H (by simp)
              ·rw [if_neg c40] at H;exact absurd H (by simp)
             ·rw [if_neg c39] at H;have c39b0 : (((rd_T41 x8_1 0).f0) == 3) = false := beq_eq_false_iff_ne.mpr c39
              have c39b1 : (((rd_T41 x8_1 0).f0) != 3) = true := bne_iff_ne.mpr c39
              replace H := Option.bind_eq_some_iff.mp H;obtain ⟨t134, A450, H⟩ := H;replace H : (if 0 < (x9_1.length : Int) then ((epitomeref09_size.f kj25 ((rd_T41 x9_1 0).f0) ((rd_T41 x9_1 0).f1) ((rd_T41 x9_1 0).f2)).bind fun t136 => ((epitomeref09_First.f kj25 ((rd_T41 x8_1 0).f0) ((rd_T41 x8_1 0).f1) ((rd_T41 x8_1 0).f2) (mn t134 t136)).bind fun bt138 => ((epitomeref09_First.f kj25 ((rd_T41 x9_1 0).f0) ((rd_T41 x9_1 0).f1) ((rd_T41 x9_1 0).f2) (mn t134 t136)).bind fun bt147 => (if bt147.1 = 1 then (if x10_1.length < 4398046511104 then (epitomeref09_Of.j3 kj25 x8_1 x9_1 (x10_1 ++ [(⟨bt138.1, bt138.2.1, bt138.2.2.1⟩ : S41)]) bt138.2.2.2.1 bt138.2.2.2.2.1 bt138.2.2.2.2.2 bt147.2.2.2.1 bt147.2.2.2.2.1 bt147.2.2.2.2.2) else (none)) else (if bt138.1 = 1 then (if x10_1.length < 4398046511104 then (epitomeref09_Of.j3 kj25 x8_1 x9_1 (x10_1 ++ [(⟨bt147.1, bt147.2.1, bt147.2.2.1⟩ : S41)]) bt138.2.2.2.1 bt138.2.2.2.2.1 bt138.2.2.2.2.2 bt147.2.2.2.1 bt147.2.2.2.2.1 bt147.2.2.2.2.2) else (none)) else (epitomeref09_Of.j3 kj25 x8_1 x9_1 x10_1 bt138.2.2.2.1 bt138.2.2.2.2.1 bt138.2.2.2.2.2 bt147.2.2.2.1 bt147.2.2.2.2.1 bt147.2.2.2.2.2)))))) else (none)) = some (r1, r2) := H
              have A45 := Am A450;clear A450;by_cases c46 : 0 < (x9_1.length : Int)
              ·rw [if_pos c46] at H;have c46b0 : decide (0 < (x9_1.length : Int)) = true := decide_eq_true c46
               have c46b1 : decide (0 < x9_1.length) = true := decide_eq_true (by omega)
               clear c46;replace H := Option.bind_eq_some_iff.mp H;obtain ⟨t136, A470, H⟩ := H;replace H : ((epitomeref09_First.f kj25 ((rd_T41 x8_1 0).f0) ((rd_T41 x8_1 0).f1) ((rd_T41 x8_1 0).f2) (mn t134 t136)).bind fun bt138 => ((epitomeref09_First.f kj25 ((rd_T41 x9_1 0).f0) ((rd_T41 x9_1 0).f1) ((rd_T41 x9_1 0).f2) (mn t134 t136)).bind fun bt147 => (if bt147.1 = 1 then (if x10_1.length < 4398046511104 then (epitomeref09_Of.j3 kj25 x8_1 x9_1 (x10_1 ++ [(⟨bt138.1, bt138.2.1, bt138.2.2.1⟩ : S41)]) bt138.2.2.2.1 bt138.2.2.2.2.1 bt138.2.2.2.2.2 bt147.2.2.2.1 bt147.2.2.2.2.1 bt147.2.2.2.2.2) else (none)) else (if bt138.1 = 1 then (if x10_1.length < 4398046511104 then (epitomeref09_Of.j3 kj25 x8_1 x9_1 (x10_1 ++ [(⟨bt147.1, bt147.2.1, bt147.2.2.1⟩ : S41)]) bt138.2.2.2.1 bt138.2.2.2.2.1 bt138.2.2.2.2.2 bt147.2.2.2.1 bt147.2.2.2.2.1 bt147.2.2.2.2.2) else (none)) else (epitomeref09_Of.j3 kj25 x8_1 x9_1 x10_1 bt138.2.2.2.1 bt138.2.2.2.2.1 bt138.2.2.2.2.2 bt147.2.2.2.1 bt147.2.2.2.2.1 bt147.2.2.2.2.2))))) = some (r1, r2) := H
               have A47 := Am A470;clear A470;obtain ⟨ji48, hji48⟩ : ∃ j_ : Int, (mn t134 t136) = j_ := ⟨_, rfl⟩
               replace H : ((epitomeref09_First.f kj25 ((rd_T41 x8_1 0).f0) ((rd_T41 x8_1 0).f1) ((rd_T41 x8_1 0).f2) (ji48)).bind fun bt138 => ((epitomeref09_First.f kj25 ((rd_T41 x9_1 0).f0) ((rd_T41 x9_1 0).f1) ((rd_T41 x9_1 0).f2) (ji48)).bind fun bt147 => (if bt147.1 = 1 then (if x10_1.length < 4398046511104 then (epitomeref09_Of.j3 kj25 x8_1 x9_1 (x10_1 ++ [(⟨bt138.1, bt138.2.1, bt138.2.2.1⟩ : S41)]) bt138.2.2.2.1 bt138.2.2.2.2.1 bt138.2.2.2.2.2 bt147.2.2.2.1 bt147.2.2.2.2.1 bt147.2.2.2.2.2) else (none)) else (if bt138.1 = 1 then (if x10_1.length < 4398046511104 then (epitomeref09_Of.j3 kj25 x8_1 x9_1 (x10_1 ++ [(⟨bt147.1, bt147.2.1, bt147.2.2.1⟩ : S41)]) bt138.2.2.2.1 bt138.2.2.2.2.1 bt138.2.2.2.2.2 bt147.2.2.2.1 bt147.2.2.2.2.1 bt147.2.2.2.2.2) else (none)) else (epitomeref09_Of.j3 kj25 x8_1 x9_1 x10_1 bt138.2.2.2.1 bt138.2.2.2.2.1 bt138.2.2.2.2.2 bt147.2.2.2.1 bt147.2.2.2.2.1 bt147.2.2.2.2.2))))) = some (r1, r2) := by first | (rw [hji48] at H; exact H) | (simp only [hji48] at H ⊢; exact H)
               (try rw [hji48] at A45)
               (try rw [hji48] at A47)
               have hji48_ : (if t136 < t134 then t136 else t134) = ji48 := hji48
               replace H := Option.bind_eq_some_iff.mp H;obtain ⟨⟨t138, t139, t140, t141, t142, t143⟩, A490, H⟩ := H;replace H : ((epitomeref09_First.f kj25 ((rd_T41 x9_1 0).f0) ((rd_T41 x9_1 0).f1) ((rd_T41 x9_1 0).f2) (ji48)).bind fun bt147 => (if bt147.1 = 1 then (if x10_1.length < 4398046511104 then (epitomeref09_Of.j3 kj25 x8_1 x9_1 (x10_1 ++ [(⟨t138, t139, t140⟩ : S41)]) t141 t142 t143 bt147.2.2.2.1 bt147.2.2.2.2.1 bt147.2.2.2.2.2) else (none)) else (if t138 = 1 then (if x10_1.length < 4398046511104 then (epitomeref09_Of.j3 kj25 x8_1 x9_1 (x10_1 ++ [(⟨bt147.1, bt147.2.1, bt147.2.2.1⟩ : S41)]) t141 t142 t143 bt147.2.2.2.1 bt147.2.2.2.2.1 bt147.2.2.2.2.2) else (none)) else (epitomeref09_Of.j3 kj25 x8_1 x9_1 x10_1 t141 t142 t143 bt147.2.2.2.1 bt147.2.2.2.2.1 bt147.2.2.2.2.2)))) = some (r1, r2) := H
               have A49 := Am A490;clear A490;replace H := Option.bind_eq_some_iff.mp H;obtain ⟨⟨t147, t148, t149, t150, t151, t152⟩, A500, H⟩ := H;replace H : (if t147 = 1 then (if x10_1.length < 4398046511104 then (epitomeref09_Of.j3 kj25 x8_1 x9_1 (x10_1 ++ [(⟨t138, t139, t140⟩ : S41)]) t141 t142 t143 t150 t151 t152) else (none)) else (if t138 = 1 then (if x10_1.length < 4398046511104 then (epitomeref09_Of.j3 kj25 x8_1 x9_1 (x10_1 ++ [(⟨t147, t148, t149⟩ : S41)]) t141 t142 t143 t150 t151 t152) else (none)) else (epitomeref09_Of.j3 kj25 x8_1 x9_1 x10_1 t141 t142 t143 t150 t151 t152))) = some (r1, r2) := H
               have A50 := Am A500;clear A500;have HC51 := Am H;clear H;obtain ⟨Ao52, co52, eo52, _⟩ := Kd.Q_slice HO_8.out
               subst eo52
               have p125 : 0 ≤ (0 : Int) := (by omega)
               have q125 : 0 < (x8_1.length : Int) := of_decide_eq_true (by assumption)
               obtain ⟨ad125, e125, hx125_0, hx125_1, hx125_2⟩ := at_T41 (Kd.Q_reads' HO_8.out).2.2 0 p125 q125
               cases e125
               have qi125 : (0 < x8_1.length) = True := eq_true (by omega)
               (try rw [zZ] at hx125_0)
               (try rw [zZ] at hx125_1)
               (try rw [zZ] at hx125_2)
               replace p125 := eq_true p125;replace q125 := eq_true q125;try go_wp2
               replace HO_8 := Am (Kd.Q_drew HO_8.out);replace HO_9 := Am (Kd.Q_drew HO_9.out);replace HO_10 := Am (R_drew HO_10.out);replace HB := Am (below_drew1 HB.out);have p133 : 0 ≤ (0 : Int) := (by omega)
               have q133 : 0 < (x8_1.length : Int) := of_decide_eq_true (by assumption)
               obtain ⟨ad133, e133, hx133_0, hx133_1, hx133_2⟩ := at_T41 (Kd.Q_reads' HO_8.out).2.2 0 p133 q133
               obtain rfl : ad125 = ad133 := (by injection e133)
               have qi133 : (0 < x8_1.length) = True := eq_true (by omega)
               (try rw [zZ] at hx133_0)
               (try rw [zZ] at hx133_1)
               (try rw [zZ] at hx133_2)
               replace p133 := eq_true p133;replace q133 := eq_true q133;obtain ⟨Ao54, co54, eo54, _⟩ := Kd.Q_slice HO_9.out
               (first | subst eo54 | (injection eo54 with f1_ f2_ f3_; have f4_ := f1_.symm; have f5_ := f3_.symm; clear f1_ f2_ f3_; subst f4_; subst f5_))
               have p135 : 0 ≤ (0 : Int) := (by omega)
               have q135 : 0 < (x9_1.length : Int) := of_decide_eq_true (by assumption)
               obtain ⟨ad135, e135, hx135_0, hx135_1, hx135_2⟩ := at_T41 (Kd.Q_reads' HO_9.out).2.2 0 p135 q135
               cases e135
               have qi135 : (0 < x9_1.length) = True := eq_true (by omega)
               (try rw [zZ] at hx135_0)
               (try rw [zZ] at hx135_1)
               (try rw [zZ] at hx135_2)
               replace p135 := eq_true p135;replace q135 := eq_true q135;refine start_ (n := 10) (S := fun w' => w'.cell? ad125 = some (.int .i64 ((rd_T41 x8_1 0).f0)) ∧ w'.cell? ⟨ad125.block, ad125.off + 1, none⟩ = some (.int .i64 ((rd_T41 x8_1 0).f1)) ∧ w'.cell? ⟨ad125.block, ad125.off + 2, none⟩ = some (.string ((rd_T41 x8_1 0).f2)) ∧ w'.cell? ad135 = some (.int .i64 ((rd_T41 x9_1 0).f0)) ∧ w'.cell? ⟨ad135.block, ad135.off + 1, none⟩ = some (.int .i64 ((rd_T41 x9_1 0).f1)) ∧ w'.cell? ⟨ad135.block, ad135.off + 2, none⟩ = some (.string ((rd_T41 x9_1 0).f2))) (ds := []) #[false, false, false, false, false, false, false, false, false, false] (by kernel_rfl) rfl rfl ⟨hx133_0, hx133_1, hx133_2, hx135_0, hx135_1, hx135_2⟩ (fun hHeld => ?_); refine with_tabW epitomeref09_Of.tab19 epitomeref09_Of.bits19 (fun HT_ HW_ => ?_)
               generalize wc.drew = w53 at HO_8 HO_9 HO_10 HB hx133_0 hx133_1 hx133_2 hx135_0 hx135_1 hx135_2 hHeld ⊢
               refine pure_ (i := 0) (N := some 75) (v := ?_) (a' := ?_) #[true, false, false, false, false, false, false, false, false, false] rfl rfl (any_of HT_.out (by kernel_rfl)) (fun _ _ _ h => h) (Or.inl ⟨by rfl, ?_⟩) ?_ ?_
               rotate_left
               ·intro w'
                go_simp;with_reducible rfl
               rotate_left
               ·simp only [Act.put, zS, i64_w, i32_w]
                rfl
               refine pure_ (i := 1) (N := some 76) (v := ?_) (a' := ?_) #[true, true, false, false, false, false, false, false, false, false] rfl rfl (any_of HT_.out (by kernel_rfl)) (fun _ _ _ h => h) (Or.inl ⟨by rfl, ?_⟩) ?_ ?_
               rotate_left
               ·intro w'
                go_simp;with_reducible rfl
               rotate_left
               ·simp only [Act.put, zS, i64_w, i32_w]
                rfl
               refine pure_ (i := 4) (N := some 79) (v := ?_) (a' := ?_) #[true, true, false, false, true, false, false, false, false, false] rfl rfl (any_of HT_.out (by kernel_rfl)) (fun _ _ _ h => h) (Or.inl ⟨by rfl, ?_⟩) ?_ ?_
               rotate_left
               ·intro w'
                go_simp;with_reducible rfl
               rotate_left
               ·simp only [Act.put, zS, i64_w, i32_w]
                rfl
               refine pure_ (i := 5) (N := some 80) (v := ?_) (a' := ?_) #[true, true, false, false, true, true, false, false, false, false] rfl rfl (any_of HT_.out (by kernel_rfl)) (fun _ _ _ h => h) (Or.inl ⟨by rfl, ?_⟩) ?_ ?_
               rotate_left
               ·intro w'
                go_simp;with_reducible rfl
               rotate_left
               ·simp only [Act.put, zS, i64_w, i32_w]
                rfl
               refine take_ (i := 2) (N := some 77) (v := ?_) (a' := ?_) #[true, true, true, false, true, true, false, false, false, false] rfl rfl (take_ofW HT_.out HW_.out (by kernel_rfl)) (fun _ _ _ h => h) (Or.inl ⟨by rfl, ?_⟩) hHeld ?_ ?_
               rotate_left
               ·rintro w' ⟨s0, s1, s2, s3, s4, s5⟩
                go_simp;with_reducible rfl
               rotate_left
               ·simp only [Act.put, zS, i64_w, i32_w]
                rfl
               refine take_ (i := 6) (N := some 81) (v := ?_) (a' := ?_) #[true, true, true, false, true, true, true, false, false, false] rfl rfl (take_ofW HT_.out HW_.out (by kernel_rfl)) (fun _ _ _ h => h) (Or.inl ⟨by rfl, ?_⟩) hHeld ?_ ?_
               rotate_left
               ·rintro w' ⟨s0, s1, s2, s3, s4, s5⟩
                go_simp;with_reducible rfl
               rotate_left
               ·simp only [Act.put, zS, i64_w, i32_w]
                rfl
               refine one_ (i := 3) (N := some 78) #[true, true, true, true, true, true, true, false, false, false] rfl rfl (one_of HT_.out (by kernel_rfl)) (by decide) (fun K hK => ?_)
               refine goes_ Tryd.func72 (by kernel_rfl) rfl #[.agg #[.int .i64 ((rd_T41 x8_1 0).f0), .int .i64 ((rd_T41 x8_1 0).f1), .string ((rd_T41 x8_1 0).f2)]] (by rfl) rfl rfl zE ?_
               with_reducible refine (epitomeref09_size.calls kj25 ((rd_T41 x8_1 0).f0) ((rd_T41 x8_1 0).f1) ((rd_T41 x8_1 0).f2) t134 _ A45.out).mono ?_
               rintro e w55 ⟨rfl, hb⟩
               have HS0_ := (hb.cell (World.block_lt_of_cell? _ _ (hHeld.1))).trans (hHeld.1)
               have HS1_ := (hb.cell (World.block_lt_of_cell? _ _ (hHeld.2.1))).trans (hHeld.2.1)
               have HS2_ := (hb.cell (World.block_lt_of_cell? _ _ (hHeld.2.2.1))).trans (hHeld.2.2.1)
               have HS3_ := (hb.cell (World.block_lt_of_cell? _ _ (hHeld.2.2.2.1))).trans (hHeld.2.2.2.1)
               have HS4_ := (hb.cell (World.block_lt_of_cell? _ _ (hHeld.2.2.2.2.1))).trans (hHeld.2.2.2.2.1)
               have HS5_ := (hb.cell (World.block_lt_of_cell? _ _ (hHeld.2.2.2.2.2))).trans (hHeld.2.2.2.2.2)
               refine ⟨_, rfl, ?_⟩
               replace HO_8 := Am (Kd.Q_below (zQ HO_8) hb);replace HO_9 := Am (Kd.Q_below (zQ HO_9) hb);replace HO_10 := Am (R_below (zR HO_10) hb);replace HB := Am (below_step (zB HB) hb);(try clear hb);(try clear hb2);(try clear hk);(try clear hi);refine hK.out _ _ ⟨HS0_, HS1_, HS2_, HS3_, HS4_, HS5_⟩ (fun hHeld => ?_)
               clear hK K;refine norm_ (a' := ?_) ?_ ?_
               rotate_left
               ·show Act.put _ (some 78) _ = _
                simp only [Act.put, zS, i64_w, i32_w]
                rfl
               refine one_ (i := 7) (N := some 82) #[true, true, true, true, true, true, true, true, false, false] rfl rfl (one_of HT_.out (by kernel_rfl)) (by decide) (fun K hK => ?_)
               refine goes_ Tryd.func72 (by kernel_rfl) rfl #[.agg #[.int .i64 ((rd_T41 x9_1 0).f0), .int .i64 ((rd_T41 x9_1 0).f1), .string ((rd_T41 x9_1 0).f2)]] (by rfl) rfl rfl zE ?_
               with_reducible refine (epitomeref09_size.calls kj25 ((rd_T41 x9_1 0).f0) ((rd_T41 x9_1 0).f1) ((rd_T41 x9_1 0).f2) t136 _ A47.out).mono ?_
               rintro e w56 ⟨rfl, hb⟩
               have HS0_ := (hb.cell (World.block_lt_of_cell? _ _ (hHeld.1))).trans (hHeld.1)
               have HS1_ := (hb.cell (World.block_lt_of_cell? _ _ (hHeld.2.1))).trans (hHeld.2.1)
               have HS2_ := (hb.cell (World.block_lt_of_cell? _ _ (hHeld.2.2.1))).trans (hHeld.2.2.1)
               have HS3_ := (hb.cell (World.block_lt_of_cell? _ _ (hHeld.2.2.2.1))).trans (hHeld.2.2.2.1)
               have HS4_ := (hb.cell (World.block_lt_of_cell? _ _ (hHeld.2.2.2.2.1))).trans (hHeld.2.2.2.2.1)
               have HS5_ := (hb.cell (World.block_lt_of_cell? _ _ (hHeld.2.2.2.2.2))).trans (hHeld.2.2.2.2.2)
               refine ⟨_, rfl, ?_⟩
               replace HO_8 := Am (Kd.Q_below (zQ HO_8) hb);replace HO_9 := Am (Kd.Q_below (zQ HO_9) hb);replace HO_10 := Am (R_below (zR HO_10) hb);replace HB := Am (below_step (zB HB) hb);(try clear hb);(try clear hb2);(try clear hk);(try clear hi);refine hK.out _ _ ⟨HS0_, HS1_, HS2_, HS3_, HS4_, HS5_⟩ (fun hHeld => ?_)
               clear hK K;refine norm_ (a' := ?_) ?_ ?_
               rotate_left
               ·show Act.put _ (some 82) _ = _
                simp only [Act.put, zS, i64_w, i32_w]
                rfl
               refine pure_ (i := 8) (N := some 83) (v := ?_) (a' := ?_) #[true, true, true, true, true, true, true, true, true, false] rfl rfl (any_of HT_.out (by kernel_rfl)) (fun _ _ _ h => h) (Or.inl ⟨by rfl, ?_⟩) ?_ ?_
               rotate_left
               ·intro w'
                go_simp;with_reducible rfl
               rotate_left
               ·simp only [Act.put, zS, i64_w, i32_w]
                rfl
               refine pure_ (i := 9) (N := some 11) (v := ?_) (a' := ?_) #[true, true, true, true, true, true, true, true, true, true] rfl rfl (any_of HT_.out (by kernel_rfl)) (fun _ _ _ h => h) (Or.inl ⟨by rfl, ?_⟩) ?_ ?_
               rotate_left
               ·intro w'
                go_simp;with_reducible rfl
               rotate_left
               ·simp only [Act.put, zS, i64_w, i32_w]
                rfl
               refine done_ (done_of HT_.out (by kernel_rfl)) ?_
               have p137 : 0 ≤ (0 : Int) := (by omega)
               have q137 : 0 < (x8_1.length : Int) := of_decide_eq_true (by assumption)
               obtain ⟨ad137, e137, hx137_0, hx137_1, hx137_2⟩ := at_T41 (Kd.Q_reads' HO_8.out).2.2 0 p137 q137
               obtain rfl : ad125 = ad137 := (by injection e137)
               have qi137 : (0 < x8_1.length) = True := eq_true (by omega)
               (try rw [zZ] at hx137_0)
               (try rw [zZ] at hx137_1)
               (try rw [zZ] at hx137_2)
               replace p137 := eq_true p137;replace q137 := eq_true q137;go_upto_if 102 with (first | ((with_reducible refine gate_callee (f := 73) rfl ?_); refine goesL_ (some 89) rfl rfl Tryd.func73 (by kernel_rfl) rfl #[.agg #[.int .i64 ((rd_T41 x8_1 0).f0), .int .i64 ((rd_T41 x8_1 0).f1), .string ((rd_T41 x8_1 0).f2)], .int .i64 ji48] rfl (by (try simp only [List.map_toArray, List.map_cons, List.map_nil]); first | done | (simp only [hji48]; rfl) | rfl | (simp only [List.length_drop, List.length_take]; rfl)) ?_; (with_reducible refine (epitomeref09_First.calls kj25 ((rd_T41 x8_1 0).f0) ((rd_T41 x8_1 0).f1) ((rd_T41 x8_1 0).f2) ji48 t138 t139 t140 t141 t142 t143 _ A49.out).mono ?_); rintro e w57 ⟨rfl, hb⟩; refine ⟨_, rfl, ?_⟩; replace HO_8 := Am (Kd.Q_below (zQ HO_8) hb);replace HO_9 := Am (Kd.Q_below (zQ HO_9) hb);replace HO_10 := Am (R_below (zR HO_10) hb);replace HB := Am (below_step (zB HB) hb); (try clear hb)) | ((with_reducible refine gate_dst (N := 12) rfl ?_); (try (refine gate_guard (by rfl) ?_; dsimp only)); refine box_event ?hg (N := 12) ?hd (cs := #[.int .i64 0, .int .i64 0, .string (⟨#[]⟩ : ByteArray)]) (t := 41) ?hr ?_; (case hd => rfl); (case hg => rfl); (case hr => first | (go_simp; done) | (go_simp; rfl)); intro gb144 hg w58 hbox hb; replace HO_8 := Am (Kd.Q_below (Kd.Q_elderB (zQ HO_8) gb144 (Nat.le_of_eq hg.symm)) hb);replace HO_9 := Am (Kd.Q_below (Kd.Q_elderB (zQ HO_9) gb144 (Nat.le_of_eq hg.symm)) hb);replace HO_10 := Am (R_below (R_elderB (zR HO_10) gb144 (Nat.le_of_eq hg.symm)) hb);have BK144 := Am (hbox);have GW144 := Am (zO (w := w) HB hg);have GE144 := Am (zO (w := w) HB hg);replace HB := Am (below_step (zB HB) hb); clear hb hbox hg) | ((with_reducible refine gate_dst (N := 13) rfl ?_); (try (refine gate_guard (by rfl) ?_; dsimp only)); refine box_event ?hg (N := 13) ?hd (cs := #[.int .i64 0, .int .i64 0, .string (⟨#[]⟩ : ByteArray)]) (t := 41) ?hr ?_; (case hd => rfl); (case hg => rfl); (case hr => first | (go_simp; done) | (go_simp; rfl)); intro gb145 hg w59 hbox hb; replace HO_8 := Am (Kd.Q_below (Kd.Q_elderB (zQ HO_8) gb145 (Nat.le_of_eq hg.symm)) hb);replace HO_9 := Am (Kd.Q_below (Kd.Q_elderB (zQ HO_9) gb145 (Nat.le_of_eq hg.symm)) hb);replace HO_10 := Am (R_below (R_elderB (zR HO_10) gb145 (Nat.le_of_eq hg.symm)) hb);have BK145 := Am (hbox);have GW145 := Am (zO (w := w) HB hg);have GE145 := Am (zO (w := w) HB hg);replace HB := Am (below_step (zB HB) hb);have NB144_145 := Am ((by rw [hg]; exact Nat.ne_of_lt (zL BK144) : gb144 ≠ gb145));have NB145_144 := Am ((by rw [hg]; exact Nat.ne_of_gt (zL BK144) : gb145 ≠ gb144));replace BK144 := Am (zU BK144 hb); clear hb hbox hg; have hnb60 := NB144_145.out; have hnc60 := NB145_144.out; obtain ⟨hcz61_0, hcz61_1, hcz61_2, hfz61_0, hfz61_1, hfz61_2⟩ := zc3 BK144; obtain ⟨hcz62_0, hcz62_1, hcz62_2, hfz62_0, hfz62_1, hfz62_2⟩ := zc3 BK145; have p146 : 0 ≤ (0 : Int) := (by omega); have q146 : 0 < (x9_1.length : Int) := of_decide_eq_true (by assumption); obtain ⟨ad146, e146, hx146_0, hx146_1, hx146_2⟩ := at_T41 (Kd.Q_reads' HO_9.out).2.2 0 p146 q146; obtain rfl : ad135 = ad146 := (by injection e146); have qi146 : (0 < x9_1.length) = True := eq_true (by omega); (try rw [zZ] at hx146_0); (try rw [zZ] at hx146_1); (try rw [zZ] at hx146_2); have hn146_0 : ad135.block ≠ gb144 := Kd.own_blk (by first | exact Kd.Q_ne HO_9.out BK144.out (by decide) | (intro e_; have o_ := HO_9.out.1 _ e_.symm; exact absurd rfl (by first | exact o_.2 | exact o_.1.2 | exact o_.1.1.2 | exact o_.1.1.1.2))); have hn146_1 : ad135.block ≠ gb144 := Kd.own_blk (by first | exact Kd.Q_ne HO_9.out BK144.out (by decide) | (intro e_; have o_ := HO_9.out.1 _ e_.symm; exact absurd rfl (by first | exact o_.2 | exact o_.1.2 | exact o_.1.1.2 | exact o_.1.1.1.2))); have hn146_2 : ad135.block ≠ gb144 := Kd.own_blk (by first | exact Kd.Q_ne HO_9.out BK144.out (by decide) | (intro e_; have o_ := HO_9.out.1 _ e_.symm; exact absurd rfl (by first | exact o_.2 | exact o_.1.2 | exact o_.1.1.2 | exact o_.1.1.1.2))); have hn146_3 : ad135.block ≠ gb145 := Kd.own_blk (by first | exact Kd.Q_ne HO_9.out BK145.out (by decide) | (intro e_; have o_ := HO_9.out.1 _ e_.symm; exact absurd rfl (by first | exact o_.2 | exact o_.1.2 | exact o_.1.1.2 | exact o_.1.1.1.2))); have hn146_4 : ad135.block ≠ gb145 := Kd.own_blk (by first | exact Kd.Q_ne HO_9.out BK145.out (by decide) | (intro e_; have o_ := HO_9.out.1 _ e_.symm; exact absurd rfl (by first | exact o_.2 | exact o_.1.2 | exact o_.1.1.2 | exact o_.1.1.1.2))); have hn146_5 : ad135.block ≠ gb145 := Kd.own_blk (by first | exact Kd.Q_ne HO_9.out BK145.out (by decide) | (intro e_; have o_ := HO_9.out.1 _ e_.symm; exact absurd rfl (by first | exact o_.2 | exact o_.1.2 | exact o_.1.1.2 | exact o_.1.1.1.2))); replace hx146_0 := (cell_far (p := ⟨gb144, 0, none⟩) (zN hn146_0) (.int .i64 t138)).trans hx146_0; replace hx146_1 := (cell_far (p := ⟨gb144, 0, none⟩) (zN hn146_0) (.int .i64 t138)).trans hx146_1; replace hx146_2 := (cell_far (p := ⟨gb144, 0, none⟩) (zN hn146_0) (.int .i64 t138)).trans hx146_2; replace hx146_0 := (cell_far (p := ⟨gb144, 1, none⟩) (zN hn146_1) (.int .i64 t139)).trans hx146_0; replace hx146_1 := (cell_far (p := ⟨gb144, 1, none⟩) (zN hn146_1) (.int .i64 t139)).trans hx146_1; replace hx146_2 := (cell_far (p := ⟨gb144, 1, none⟩) (zN hn146_1) (.int .i64 t139)).trans hx146_2; replace hx146_0 := (cell_far (p := ⟨gb144, 2, none⟩) (zN hn146_2) (.string t140)).trans hx146_0; replace hx146_1 := (cell_far (p := ⟨gb144, 2, none⟩) (zN hn146_2) (.string t140)).trans hx146_1; replace hx146_2 := (cell_far (p := ⟨gb144, 2, none⟩) (zN hn146_2) (.string t140)).trans hx146_2; replace hx146_0 := (cell_far (p := ⟨gb145, 0, none⟩) (zN hn146_3) (.int .i64 t141)).trans hx146_0; replace hx146_1 := (cell_far (p := ⟨gb145, 0, none⟩) (zN hn146_3) (.int .i64 t141)).trans hx146_1; replace hx146_2 := (cell_far (p := ⟨gb145, 0, none⟩) (zN hn146_3) (.int .i64 t141)).trans hx146_2; replace hx146_0 := (cell_far (p := ⟨gb145, 1, none⟩) (zN hn146_4) (.int .i64 t142)).trans hx146_0; replace hx146_1 := (cell_far (p := ⟨gb145, 1, none⟩) (zN hn146_4) (.int .i64 t142)).trans hx146_1; replace hx146_2 := (cell_far (p := ⟨gb145, 1, none⟩) (zN hn146_4) (.int .i64 t142)).trans hx146_2; replace hx146_0 := (cell_far (p := ⟨gb145, 2, none⟩) (zN hn146_5) (.string t143)).trans hx146_0; replace hx146_1 := (cell_far (p := ⟨gb145, 2, none⟩) (zN hn146_5) (.string t143)).trans hx146_1; replace hx146_2 := (cell_far (p := ⟨gb145, 2, none⟩) (zN hn146_5) (.string t143)).trans hx146_2; clear hn146_0; clear hn146_1; clear hn146_2; clear hn146_3; clear hn146_4; clear hn146_5; replace p146 := eq_true p146; replace q146 := eq_true q146) | ((with_reducible refine gate_callee (f := 73) rfl ?_); refine goesL_ (some 97) rfl rfl Tryd.func73 (by kernel_rfl) rfl #[.agg #[.int .i64 ((rd_T41 x9_1 0).f0), .int .i64 ((rd_T41 x9_1 0).f1), .string ((rd_T41 x9_1 0).f2)], .int .i64 ji48] rfl (by (try simp only [List.map_toArray, List.map_cons, List.map_nil]); first | done | (simp only [hji48]; rfl) | rfl | (simp only [List.length_drop, List.length_take]; rfl)) ?_; (with_reducible refine (epitomeref09_First.calls kj25 ((rd_T41 x9_1 0).f0) ((rd_T41 x9_1 0).f1) ((rd_T41 x9_1 0).f2) ji48 t147 t148 t149 t150 t151 t152 _ A50.out).mono ?_); rintro e w63 ⟨rfl, hb⟩; refine ⟨_, rfl, ?_⟩; replace HO_8 := Am (Kd.Q_below (by (with_reducible repeat (first | apply zA.p | apply zA.q | apply zA.r)); exact (Kd.Q_mono (Kd.Q_mono (zX (zX (Kd.Q_mono (Kd.Q_mono HO_8.out (fun k_ hk => (⟨hk, hk.1.2⟩ : _ ∧ k_ ≠ gb144))) (fun k_ hk => (⟨hk, hk.1.2⟩ : _ ∧ k_ ≠ gb145))) gb144 (fun _ hk => hk.1.2) (.int .i64 t138) (.int .i64 t139) (.string t140)) gb145 (fun _ hk => hk.2) (.int .i64 t141) (.int .i64 t142) (.string t143)) (fun _ h_ => h_.1)) (fun _ h_ => h_.1))) hb);replace HO_9 := Am (Kd.Q_below (by (with_reducible repeat (first | apply zA.p | apply zA.q | apply zA.r)); exact (Kd.Q_mono (Kd.Q_mono (zX (zX (Kd.Q_mono (Kd.Q_mono HO_9.out (fun k_ hk => (⟨hk, hk.1.2⟩ : _ ∧ k_ ≠ gb144))) (fun k_ hk => (⟨hk, hk.1.2⟩ : _ ∧ k_ ≠ gb145))) gb144 (fun _ hk => hk.1.2) (.int .i64 t138) (.int .i64 t139) (.string t140)) gb145 (fun _ hk => hk.2) (.int .i64 t141) (.int .i64 t142) (.string t143)) (fun _ h_ => h_.1)) (fun _ h_ => h_.1))) hb);replace HO_10 := Am (R_below (by (with_reducible repeat (first | apply zA.a | apply zA.n | apply zA.d)); exact (R_mono (R_mono (zY (zY (R_mono (R_mono HO_10.out (fun k_ hk => (⟨hk, hk.1.2⟩ : _ ∧ k_ ≠ gb144))) (fun k_ hk => (⟨hk, hk.1.2⟩ : _ ∧ k_ ≠ gb145))) gb144 (fun _ hk => hk.1.2) (.int .i64 t138) (.int .i64 t139) (.string t140)) gb145 (fun _ hk => hk.2) (.int .i64 t141) (.int .i64 t142) (.string t143)) (fun _ h_ => h_.1)) (fun _ h_ => h_.1))) hb);replace BK144 := Am (blk_below (g := gb144) (o := .cells #[.int .i64 t138, .int .i64 t139, .string t140] 41 (0, 0)) (zP BK144) hb);replace BK145 := Am (blk_below (g := gb145) (o := .cells #[.int .i64 t141, .int .i64 t142, .string t143] 41 (0, 0)) (zP BK145) hb);replace HB := Am (below_step (zB HB) hb); (try clear hb)) | ((with_reducible refine gate_dst (N := 14) rfl ?_); (try (refine gate_guard (by rfl) ?_; dsimp only)); refine box_event ?hg (N := 14) ?hd (cs := #[.int .i64 0, .int .i64 0, .string (⟨#[]⟩ : ByteArray)]) (t := 41) ?hr ?_; (case hd => rfl); (case hg => rfl); (case hr => first | (go_simp; done) | (go_simp; rfl)); intro gb153 hg w64 hbox hb; replace HO_8 := Am (Kd.Q_below (Kd.Q_elderB (zQ HO_8) gb153 (Nat.le_of_eq hg.symm)) hb);replace HO_9 := Am (Kd.Q_below (Kd.Q_elderB (zQ HO_9) gb153 (Nat.le_of_eq hg.symm)) hb);replace HO_10 := Am (R_below (R_elderB (zR HO_10) gb153 (Nat.le_of_eq hg.symm)) hb);have BK153 := Am (hbox);have GW153 := Am (zO (w := w) HB hg);have GE153 := Am (zO (w := w) HB hg);replace HB := Am (below_step (zB HB) hb);have NB144_153 := Am ((by rw [hg]; exact Nat.ne_of_lt (zL BK144) : gb144 ≠ gb153));have NB153_144 := Am ((by rw [hg]; exact Nat.ne_of_gt (zL BK144) : gb153 ≠ gb144));replace BK144 := Am (zU BK144 hb);have NB145_153 := Am ((by rw [hg]; exact Nat.ne_of_lt (zL BK145) : gb145 ≠ gb153));have NB153_145 := Am ((by rw [hg]; exact Nat.ne_of_gt (zL BK145) : gb153 ≠ gb145));replace BK145 := Am (zU BK145 hb); clear hb hbox hg) | ((with_reducible refine gate_dst (N := 15) rfl ?_); (try (refine gate_guard (by rfl) ?_; dsimp only)); refine box_event ?hg (N := 15) ?hd (cs := #[.int .i64 0, .int .i64 0, .string (⟨#[]⟩ : ByteArray)]) (t := 41) ?hr ?_; (case hd => rfl); (case hg => rfl); (case hr => first | (go_simp; done) | (go_simp; rfl)); intro gb154 hg w65 hbox hb; replace HO_8 := Am (Kd.Q_below (Kd.Q_elderB (zQ HO_8) gb154 (Nat.le_of_eq hg.symm)) hb);replace HO_9 := Am (Kd.Q_below (Kd.Q_elderB (zQ HO_9) gb154 (Nat.le_of_eq hg.symm)) hb);replace HO_10 := Am (R_below (R_elderB (zR HO_10) gb154 (Nat.le_of_eq hg.symm)) hb);have BK154 := Am (hbox);have GW154 := Am (zO (w := w) HB hg);have GE154 := Am (zO (w := w) HB hg);replace HB := Am (below_step (zB HB) hb);have NB144_154 := Am ((by rw [hg]; exact Nat.ne_of_lt (zL BK144) : gb144 ≠ gb154));have NB154_144 := Am ((by rw [hg]; exact Nat.ne_of_gt (zL BK144) : gb154 ≠ gb144));replace BK144 := Am (zU BK144 hb);have NB145_154 := Am ((by rw [hg]; exact Nat.ne_of_lt (zL BK145) : gb145 ≠ gb154));have NB154_145 := Am ((by rw [hg]; exact Nat.ne_of_gt (zL BK145) : gb154 ≠ gb145));replace BK145 := Am (zU BK145 hb);have NB153_154 := Am ((by rw [hg]; exact Nat.ne_of_lt (zL BK153) : gb153 ≠ gb154));have NB154_153 := Am ((by rw [hg]; exact Nat.ne_of_gt (zL BK153) : gb154 ≠ gb153));replace BK153 := Am (zU BK153 hb); clear hb hbox hg; have hnb66 := NB153_144.out; have hnc66 := NB144_153.out; have hnb67 := NB153_145.out; have hnc67 := NB145_153.out; have hnb68 := NB153_154.out; have hnc68 := NB154_153.out; obtain ⟨hcz69_0, hcz69_1, hcz69_2, hfz69_0, hfz69_1, hfz69_2⟩ := zc3 BK153; have hnb70 := NB154_144.out; have hnc70 := NB144_154.out; have hnb71 := NB154_145.out; have hnc71 := NB145_154.out; obtain ⟨hcz72_0, hcz72_1, hcz72_2, hfz72_0, hfz72_1, hfz72_2⟩ := zc3 BK154))
               (try simp only [Act.put, zS])
               go_cut [10] (fun v10 wc => ∃ (kq : Nat) (x10_50 : List (S41)), Aside0 (epitomeref09_Of.j3 kq x8_1 x9_1 x10_50 t141 t142 t143 t150 t151 t152 = some (r1, r2)) ∧ Aside0 (kq ≤ kj25) ∧ Aside0 (Kd.Q k41 41 wc w.heap.size (fun k_ => some k_ ≠ ((.slice (some ad135) x9_1.length co54) : Value).ownBlock ∧ some k_ ≠ (v10 : Value).ownBlock ∧ k_ ≠ gb144 ∧ k_ ≠ gb145 ∧ k_ ≠ gb153 ∧ k_ ≠ gb154) (.slice (some ad125) x8_1.length co52) x8_1) ∧ Aside0 (Kd.Q k41 41 wc w.heap.size (fun k_ => some k_ ≠ ((.slice (some ad125) x8_1.length co52) : Value).ownBlock ∧ some k_ ≠ (v10 : Value).ownBlock ∧ k_ ≠ gb144 ∧ k_ ≠ gb145 ∧ k_ ≠ gb153 ∧ k_ ≠ gb154) (.slice (some ad135) x9_1.length co54) x9_1) ∧ Aside0 (Kd.R k41 41 wc w.heap.size (fun k_ => some k_ ≠ ((.slice (some ad125) x8_1.length co52) : Value).ownBlock ∧ some k_ ≠ ((.slice (some ad135) x9_1.length co54) : Value).ownBlock ∧ k_ ≠ gb144 ∧ k_ ≠ gb145 ∧ k_ ≠ gb153 ∧ k_ ≠ gb154) v10 x10_50) ∧ Aside0 (wc.heap[gb144]? = some (.cells #[.int .i64 t138, .int .i64 t139, .string t140] 41 (0, 0))) ∧ Aside0 (wc.heap[gb145]? = some (.cells #[.int .i64 t141, .int .i64 t142, .string t143] 41 (0, 0))) ∧ Aside0 (wc.heap[gb153]? = some (.cells #[.int .i64 t147, .int .i64 t148, .string t149] 41 (0, 0))) ∧ Aside0 (wc.heap[gb154]? = some (.cells #[.int .i64 t150, .int .i64 t151, .string t152] 41 (0, 0))) ∧ Aside0 (Below w.heap.size w wc))
               case first =>
                have H := HC51.out;clear HC51;by_cases c73 : t147 = 1
                ·rw [if_pos c73] at H;have c73b0 : (t147 == 1) = true := beq_iff_eq.mpr c73
                 have c73b1 : (t147 != 1) = false := bne_eq_false_iff_eq.mpr c73
                 clear c73;(first | rw [c73b0] | (simp only [i64_w, i32_w]; rw [c73b0]) | skip)
                 by_cases c74 : x10_1.length < 4398046511104
                 ·rw [if_pos c74] at H;have LMc74 := Am c74;clear c74;obtain ⟨y155, hy155⟩ : ∃ y_ : List (S41), y_ = (x10_1 ++ [(⟨t138, t139, t140⟩ : S41)]) := ⟨_, rfl⟩
                  replace H : (epitomeref09_Of.j3 kj25 x8_1 x9_1 y155 t141 t142 t143 t150 t151 t152) = some (r1, r2) := by first | (rw [hy155]; with_reducible exact H) | (have H2_ := (Option.bind_some _ _).symm.trans H; rw [hy155]; with_reducible exact H2_) | (have H2_ := (Option.bind_some _ _).symm.trans H; with_reducible exact H2_) | with_reducible exact H | (rw [hy155]; exact H) | exact H
                  have Ny155 := Am hy155;clear hy155;have H' := Am H
                  clear H;have hnb75 := NB144_145.out;have hnc75 := NB145_144.out;have hnb76 := NB144_153.out;have hnc76 := NB153_144.out;have hnb77 := NB144_154.out;have hnc77 := NB154_144.out;obtain ⟨hcz78_0, hcz78_1, hcz78_2, hfz78_0, hfz78_1, hfz78_2⟩ := zc3 BK144;go_wp2_with (first | ((with_reducible refine gate_builtin (b := .append) (xs := #[.tmp 103, .tmp 105]) rfl ?_); (try (refine gate_guard (by rfl) ?_; dsimp only)); at_builtin; refine R_append k41 (w0 := w) w.heap.size rfl (.tmp 103) (.tmp 105) 24 41 (.agg #[(.int .i64 0), (.int .i64 0), (.string ⟨#[]⟩)]) 32 rfl Tryd.underlying24 info41 rfl (by decide) (by omega) u10 x10_1 (⟨t138, t139, t140⟩ : S41) [.int .i64 t138, .int .i64 t139, .string t140] (fun k_ => some k_ ≠ (.slice (some ad125) x8_1.length co52 : Value).ownBlock ∧ some k_ ≠ (.slice (some ad135) x9_1.length co54 : Value).ownBlock ∧ k_ ≠ gb144 ∧ k_ ≠ gb145 ∧ k_ ≠ gb153 ∧ k_ ≠ gb154) (fun _ => False) rfl (by first | (go_simp; done) | (go_simp; rfl)) ?aP (fun _ hk => hk.elim) ?aF ?aO ?aB ?aS ?aL ?_; (case aP => exact k41_mkM _ _ _ (⟨t138, t139, t140⟩ : S41)); (case aB => exact (zB HB)); (case aF => exact (fun k_ hk => ⟨Kd.fresh' (Kd.Q_lt (by (with_reducible repeat (first | apply zA.p | apply zA.q | apply zA.r)); exact (Kd.Q_mono (Kd.Q_mono (zX (zX (Kd.Q_mono (Kd.Q_mono HO_8.out (fun k_ hk => (⟨hk, hk.1.2⟩ : _ ∧ k_ ≠ gb153))) (fun k_ hk => (⟨hk, hk.1.2⟩ : _ ∧ k_ ≠ gb154))) gb153 (fun _ hk => hk.1.2) (.int .i64 t147) (.int .i64 t148) (.string t149)) gb154 (fun _ hk => hk.2) (.int .i64 t150) (.int .i64 t151) (.string t152)) (fun _ h_ => h_.1)) (fun _ h_ => h_.1)))) k_ hk, Kd.fresh' (Kd.Q_lt (by (with_reducible repeat (first | apply zA.p | apply zA.q | apply zA.r)); exact (Kd.Q_mono (Kd.Q_mono (zX (zX (Kd.Q_mono (Kd.Q_mono HO_9.out (fun k_ hk => (⟨hk, hk.1.2⟩ : _ ∧ k_ ≠ gb153))) (fun k_ hk => (⟨hk, hk.1.2⟩ : _ ∧ k_ ≠ gb154))) gb153 (fun _ hk => hk.1.2) (.int .i64 t147) (.int .i64 t148) (.string t149)) gb154 (fun _ hk => hk.2) (.int .i64 t150) (.int .i64 t151) (.string t152)) (fun _ h_ => h_.1)) (fun _ h_ => h_.1)))) k_ hk, zm BK144 k_ hk, zm BK145 k_ hk, Kd.freshB (g := gb153) (o := .cells #[.int .i64 t147, .int .i64 t148, .string t149] 41 (0, 0)) (zP BK153) k_ hk, Kd.freshB (g := gb154) (o := .cells #[.int .i64 t150, .int .i64 t151, .string t152] 41 (0, 0)) (zP BK154) k_ hk⟩)); (case aO => exact (by (with_reducible repeat (first | apply zA.a | apply zA.n | apply zA.d)); exact R_mono (zY (zY (R_mono (R_mono HO_10.out (fun k_ hk => (⟨hk, hk.1.2⟩ : _ ∧ k_ ≠ gb153))) (fun k_ hk => (⟨hk, hk.1.2⟩ : _ ∧ k_ ≠ gb154))) gb153 (fun _ hk => hk.1.2) (.int .i64 t147) (.int .i64 t148) (.string t149)) gb154 (fun _ hk => hk.2) (.int .i64 t150) (.int .i64 t151) (.string t152)) (fun _ hk => ⟨hk.1.1.1.1.1.1.1, ⟨hk.1.1.1.1.1.1.2, ⟨hk.1.1.1.1.1.2, ⟨hk.1.1.1.1.2, ⟨hk.1.1.1.2, hk.1.1.2⟩⟩⟩⟩⟩))); (case aS => exact (below_size (zB HB))); (case aL => have := LMc74.out; omega); intro v156 w79 ho hb hg hat; rw [← Ny155.out] at ho; replace HO_8 := Am (Kd.Q_after (ok := (fun k_ => some k_ ≠ (.slice (some ad135) x9_1.length co54 : Value).ownBlock ∧ k_ ≠ gb144 ∧ k_ ≠ gb145 ∧ k_ ≠ gb153 ∧ k_ ≠ gb154)) (by (with_reducible repeat (first | apply zA.p | apply zA.q | apply zA.r)); exact Kd.Q_mono (zX (zX (Kd.Q_mono (Kd.Q_mono HO_8.out (fun k_ hk => (⟨hk, hk.1.2⟩ : _ ∧ k_ ≠ gb153))) (fun k_ hk => (⟨hk, hk.1.2⟩ : _ ∧ k_ ≠ gb154))) gb153 (fun _ hk => hk.1.2) (.int .i64 t147) (.int .i64 t148) (.string t149)) gb154 (fun _ hk => hk.2) (.int .i64 t150) (.int .i64 t151) (.string t152)) (fun _ hk => ⟨⟨hk.1.1.1.1.1.1.1, ⟨hk.1.1.1.1.1.2, ⟨hk.1.1.1.1.2, ⟨hk.1.1.1.2, hk.1.1.2⟩⟩⟩⟩, hk.1.1.1.1.1.1.2⟩)) hg hat);replace HO_9 := Am (Kd.Q_after (ok := (fun k_ => some k_ ≠ (.slice (some ad125) x8_1.length co52 : Value).ownBlock ∧ k_ ≠ gb144 ∧ k_ ≠ gb145 ∧ k_ ≠ gb153 ∧ k_ ≠ gb154)) (by (with_reducible repeat (first | apply zA.p | apply zA.q | apply zA.r)); exact Kd.Q_mono (zX (zX (Kd.Q_mono (Kd.Q_mono HO_9.out (fun k_ hk => (⟨hk, hk.1.2⟩ : _ ∧ k_ ≠ gb153))) (fun k_ hk => (⟨hk, hk.1.2⟩ : _ ∧ k_ ≠ gb154))) gb153 (fun _ hk => hk.1.2) (.int .i64 t147) (.int .i64 t148) (.string t149)) gb154 (fun _ hk => hk.2) (.int .i64 t150) (.int .i64 t151) (.string t152)) (fun _ hk => ⟨⟨hk.1.1.1.1.1.1.1, ⟨hk.1.1.1.1.1.2, ⟨hk.1.1.1.1.2, ⟨hk.1.1.1.2, hk.1.1.2⟩⟩⟩⟩, hk.1.1.1.1.1.1.2⟩)) hg hat);replace BK144 := Am (zW BK144 hg (R_away HO_10.out (fun _ hk => hk.1.1.1.2)));replace BK145 := Am (zW BK145 hg (R_away HO_10.out (fun _ hk => hk.1.1.2)));replace BK153 := Am (blk_grown (g := gb153) (o := .cells #[.int .i64 t147, .int .i64 t148, .string t149] 41 (0, 0)) (zP BK153) hg (R_away HO_10.out (fun _ hk => hk.1.2)));replace BK154 := Am (blk_grown (g := gb154) (o := .cells #[.int .i64 t150, .int .i64 t151, .string t152] 41 (0, 0)) (zP BK154) hg (R_away HO_10.out (fun _ hk => hk.2)));replace HB := Am (hb);have HO157 := Am (ho);clear HO_10; clear ho hb hg hat))
                  go_meet
                  case rel => exact ⟨_, (y155), H', ⟨by have := HK1.out; have := HJ19.out; have := HJ25.out; first | omega | exact Nat.le_refl _⟩, ⟨by (with_reducible repeat (first | apply zA.p | apply zA.q | apply zA.r)); exact Kd.Q_mono HO_8.out (fun _ hk => ⟨hk.1.1, ⟨hk.2, ⟨hk.1.2.1, ⟨hk.1.2.2.1, ⟨hk.1.2.2.2.1, hk.1.2.2.2.2⟩⟩⟩⟩⟩)⟩, ⟨by (with_reducible repeat (first | apply zA.p | apply zA.q | apply zA.r)); exact Kd.Q_mono HO_9.out (fun _ hk => ⟨hk.1.1, ⟨hk.2, ⟨hk.1.2.1, ⟨hk.1.2.2.1, ⟨hk.1.2.2.2.1, hk.1.2.2.2.2⟩⟩⟩⟩⟩)⟩, ⟨(zR HO157)⟩, ⟨(zK BK144)⟩, ⟨(zK BK145)⟩, ⟨(zK BK153)⟩, ⟨(zK BK154)⟩, ⟨(zB HB)⟩⟩
                 ·rw [if_neg c74] at H;exact absurd H (by simp)
                ·rw [if_neg c73] at H;have c73b0 : (t147 == 1) = false := beq_eq_false_iff_ne.mpr c73
                 have c73b1 : (t147 != 1) = true := bne_iff_ne.mpr c73
                 (first | rw [c73b0] | (simp only [i64_w, i32_w]; rw [c73b0]) | skip)
                 by_cases c80 : t138 = 1
                 ·rw [if_pos c80] at H;have c80b0 : (t138 == 1) = true := beq_iff_eq.mpr c80
                  have c80b1 : (t138 != 1) = false := bne_eq_false_iff_eq.mpr c80
                  clear c80;by_cases c81 : x10_1.length < 4398046511104
                  ·rw [if_pos c81] at H;have LMc81 := Am c81;clear c81;obtain ⟨y158, hy158⟩ : ∃ y_ : List (S41), y_ = (x10_1 ++ [(⟨t147, t148, t149⟩ : S41)]) := ⟨_, rfl⟩
                   replace H : (epitomeref09_Of.j3 kj25 x8_1 x9_1 y158 t141 t142 t143 t150 t151 t152) = some (r1, r2) := by first | (rw [hy158]; with_reducible exact H) | (have H2_ := (Option.bind_some _ _).symm.trans H; rw [hy158]; with_reducible exact H2_) | (have H2_ := (Option.bind_some _ _).symm.trans H; with_reducible exact H2_) | with_reducible exact H | (rw [hy158]; exact H) | exact H
                   have Ny158 := Am hy158;clear hy158;have H' := Am H
                   clear H;have hnb82 := NB144_145.out;have hnc82 := NB145_144.out;have hnb83 := NB144_153.out;have hnc83 := NB153_144.out;have hnb84 := NB144_154.out;have hnc84 := NB154_144.out;obtain ⟨hcz85_0, hcz85_1, hcz85_2, hfz85_0, hfz85_1, hfz85_2⟩ := zc3 BK144;have hnb86 := NB153_145.out;have hnc86 := NB145_153.out;have hnb87 := NB153_154.out;have hnc87 := NB154_153.out;obtain ⟨hcz88_0, hcz88_1, hcz88_2, hfz88_0, hfz88_1, hfz88_2⟩ := zc3 BK153;go_wp2_with (first | ((with_reducible refine gate_builtin (b := .append) (xs := #[.tmp 110, .tmp 112]) rfl ?_); (try (refine gate_guard (by rfl) ?_; dsimp only)); at_builtin; refine R_append k41 (w0 := w) w.heap.size rfl (.tmp 110) (.tmp 112) 24 41 (.agg #[(.int .i64 0), (.int .i64 0), (.string ⟨#[]⟩)]) 32 rfl Tryd.underlying24 info41 rfl (by decide) (by omega) u10 x10_1 (⟨t147, t148, t149⟩ : S41) [.int .i64 t147, .int .i64 t148, .string t149] (fun k_ => some k_ ≠ (.slice (some ad125) x8_1.length co52 : Value).ownBlock ∧ some k_ ≠ (.slice (some ad135) x9_1.length co54 : Value).ownBlock ∧ k_ ≠ gb144 ∧ k_ ≠ gb145 ∧ k_ ≠ gb153 ∧ k_ ≠ gb154) (fun _ => False) rfl (by first | (go_simp; done) | (go_simp; rfl)) ?aP (fun _ hk => hk.elim) ?aF ?aO ?aB ?aS ?aL ?_; (case aP => exact k41_mkM _ _ _ (⟨t147, t148, t149⟩ : S41)); (case aB => exact (zB HB)); (case aF => exact (fun k_ hk => ⟨Kd.fresh' (Kd.Q_lt (by (with_reducible repeat (first | apply zA.p | apply zA.q | apply zA.r)); exact (Kd.Q_mono (Kd.Q_mono (zX (zX (Kd.Q_mono (Kd.Q_mono HO_8.out (fun k_ hk => (⟨hk, hk.1.2⟩ : _ ∧ k_ ≠ gb153))) (fun k_ hk => (⟨hk, hk.1.2⟩ : _ ∧ k_ ≠ gb154))) gb153 (fun _ hk => hk.1.2) (.int .i64 t147) (.int .i64 t148) (.string t149)) gb154 (fun _ hk => hk.2) (.int .i64 t150) (.int .i64 t151) (.string t152)) (fun _ h_ => h_.1)) (fun _ h_ => h_.1)))) k_ hk, Kd.fresh' (Kd.Q_lt (by (with_reducible repeat (first | apply zA.p | apply zA.q | apply zA.r)); exact (Kd.Q_mono (Kd.Q_mono (zX (zX (Kd.Q_mono (Kd.Q_mono HO_9.out (fun k_ hk => (⟨hk, hk.1.2⟩ : _ ∧ k_ ≠ gb153))) (fun k_ hk => (⟨hk, hk.1.2⟩ : _ ∧ k_ ≠ gb154))) gb153 (fun _ hk => hk.1.2) (.int .i64 t147) (.int .i64 t148) (.string t149)) gb154 (fun _ hk => hk.2) (.int .i64 t150) (.int .i64 t151) (.string t152)) (fun _ h_ => h_.1)) (fun _ h_ => h_.1)))) k_ hk, zm BK144 k_ hk, zm BK145 k_ hk, Kd.freshB (g := gb153) (o := .cells #[.int .i64 t147, .int .i64 t148, .string t149] 41 (0, 0)) (zP BK153) k_ hk, Kd.freshB (g := gb154) (o := .cells #[.int .i64 t150, .int .i64 t151, .string t152] 41 (0, 0)) (zP BK154) k_ hk⟩)); (case aO => exact (by (with_reducible repeat (first | apply zA.a | apply zA.n | apply zA.d)); exact R_mono (zY (zY (R_mono (R_mono HO_10.out (fun k_ hk => (⟨hk, hk.1.2⟩ : _ ∧ k_ ≠ gb153))) (fun k_ hk => (⟨hk, hk.1.2⟩ : _ ∧ k_ ≠ gb154))) gb153 (fun _ hk => hk.1.2) (.int .i64 t147) (.int .i64 t148) (.string t149)) gb154 (fun _ hk => hk.2) (.int .i64 t150) (.int .i64 t151) (.string t152)) (fun _ hk => ⟨hk.1.1.1.1.1.1.1, ⟨hk.1.1.1.1.1.1.2, ⟨hk.1.1.1.1.1.2, ⟨hk.1.1.1.1.2, ⟨hk.1.1.1.2, hk.1.1.2⟩⟩⟩⟩⟩))); (case aS => exact (below_size (zB HB))); (case aL => have := LMc81.out; omega); intro v159 w89 ho hb hg hat; rw [← Ny158.out] at ho; replace HO_8 := Am (Kd.Q_after (ok := (fun k_ => some k_ ≠ (.slice (some ad135) x9_1.length co54 : Value).ownBlock ∧ k_ ≠ gb144 ∧ k_ ≠ gb145 ∧ k_ ≠ gb153 ∧ k_ ≠ gb154)) (by (with_reducible repeat (first | apply zA.p | apply zA.q | apply zA.r)); exact Kd.Q_mono (zX (zX (Kd.Q_mono (Kd.Q_mono HO_8.out (fun k_ hk => (⟨hk, hk.1.2⟩ : _ ∧ k_ ≠ gb153))) (fun k_ hk => (⟨hk, hk.1.2⟩ : _ ∧ k_ ≠ gb154))) gb153 (fun _ hk => hk.1.2) (.int .i64 t147) (.int .i64 t148) (.string t149)) gb154 (fun _ hk => hk.2) (.int .i64 t150) (.int .i64 t151) (.string t152)) (fun _ hk => ⟨⟨hk.1.1.1.1.1.1.1, ⟨hk.1.1.1.1.1.2, ⟨hk.1.1.1.1.2, ⟨hk.1.1.1.2, hk.1.1.2⟩⟩⟩⟩, hk.1.1.1.1.1.1.2⟩)) hg hat);replace HO_9 := Am (Kd.Q_after (ok := (fun k_ => some k_ ≠ (.slice (some ad125) x8_1.length co52 : Value).ownBlock ∧ k_ ≠ gb144 ∧ k_ ≠ gb145 ∧ k_ ≠ gb153 ∧ k_ ≠ gb154)) (by (with_reducible repeat (first | apply zA.p | apply zA.q | apply zA.r)); exact Kd.Q_mono (zX (zX (Kd.Q_mono (Kd.Q_mono HO_9.out (fun k_ hk => (⟨hk, hk.1.2⟩ : _ ∧ k_ ≠ gb153))) (fun k_ hk => (⟨hk, hk.1.2⟩ : _ ∧ k_ ≠ gb154))) gb153 (fun _ hk => hk.1.2) (.int .i64 t147) (.int .i64 t148) (.string t149)) gb154 (fun _ hk => hk.2) (.int .i64 t150) (.int .i64 t151) (.string t152)) (fun _ hk => ⟨⟨hk.1.1.1.1.1.1.1, ⟨hk.1.1.1.1.1.2, ⟨hk.1.1.1.1.2, ⟨hk.1.1.1.2, hk.1.1.2⟩⟩⟩⟩, hk.1.1.1.1.1.1.2⟩)) hg hat);replace BK144 := Am (zW BK144 hg (R_away HO_10.out (fun _ hk => hk.1.1.1.2)));replace BK145 := Am (zW BK145 hg (R_away HO_10.out (fun _ hk => hk.1.1.2)));replace BK153 := Am (blk_grown (g := gb153) (o := .cells #[.int .i64 t147, .int .i64 t148, .string t149] 41 (0, 0)) (zP BK153) hg (R_away HO_10.out (fun _ hk => hk.1.2)));replace BK154 := Am (blk_grown (g := gb154) (o := .cells #[.int .i64 t150, .int .i64 t151, .string t152] 41 (0, 0)) (zP BK154) hg (R_away HO_10.out (fun _ hk => hk.2)));replace HB := Am (hb);have HO160 := Am (ho);clear HO_10; clear ho hb hg hat))
                   go_meet
                   case rel => exact ⟨_, (y158), H', ⟨by have := HK1.out; have := HJ19.out; have := HJ25.out; first | omega | exact Nat.le_refl _⟩, ⟨by (with_reducible repeat (first | apply zA.p | apply zA.q | apply zA.r)); exact Kd.Q_mono HO_8.out (fun _ hk => ⟨hk.1.1, ⟨hk.2, ⟨hk.1.2.1, ⟨hk.1.2.2.1, ⟨hk.1.2.2.2.1, hk.1.2.2.2.2⟩⟩⟩⟩⟩)⟩, ⟨by (with_reducible repeat (first | apply zA.p | apply zA.q | apply zA.r)); exact Kd.Q_mono HO_9.out (fun _ hk => ⟨hk.1.1, ⟨hk.2, ⟨hk.1.2.1, ⟨hk.1.2.2.1, ⟨hk.1.2.2.2.1, hk.1.2.2.2.2⟩⟩⟩⟩⟩)⟩, ⟨(zR HO160)⟩, ⟨(zK BK144)⟩, ⟨(zK BK145)⟩, ⟨(zK BK153)⟩, ⟨(zK BK154)⟩, ⟨(zB HB)⟩⟩
                  ·rw [if_neg c81] at H;exact absurd H (by simp)
                 ·rw [if_neg c80] at H;have c80b0 : (t138 == 1) = false := beq_eq_false_iff_ne.mpr c80
                  have c80b1 : (t138 != 1) = true := bne_iff_ne.mpr c80
                  have H' := Am H
                  clear H;have hnb90 := NB144_145.out;have hnc90 := NB145_144.out;have hnb91 := NB144_153.out;have hnc91 := NB153_144.out;have hnb92 := NB144_154.out;have hnc92 := NB154_144.out;obtain ⟨hcz93_0, hcz93_1, hcz93_2, hfz93_0, hfz93_1, hfz93_2⟩ := zc3 BK144;go_wp2
                  go_meet
                  case rel => exact ⟨_, (x10_1), H', ⟨by have := HK1.out; have := HJ19.out; have := HJ25.out; first | omega | exact Nat.le_refl _⟩, ⟨by (with_reducible repeat (first | apply zA.p | apply zA.q | apply zA.r)); exact Kd.Q_mono (zX (zX (Kd.Q_mono (Kd.Q_mono HO_8.out (fun k_ hk => (⟨hk, hk.1.2⟩ : _ ∧ k_ ≠ gb153))) (fun k_ hk => (⟨hk, hk.1.2⟩ : _ ∧ k_ ≠ gb154))) gb153 (fun _ hk => hk.1.2) (.int .i64 t147) (.int .i64 t148) (.string t149)) gb154 (fun _ hk => hk.2) (.int .i64 t150) (.int .i64 t151) (.string t152)) (fun _ hk => ⟨hk.1.1.1.1.1.1.1, ⟨hk.1.1.1.1.1.1.2, ⟨hk.1.1.1.1.1.2, ⟨hk.1.1.1.1.2, ⟨hk.1.1.1.2, hk.1.1.2⟩⟩⟩⟩⟩)⟩, ⟨by (with_reducible repeat (first | apply zA.p | apply zA.q | apply zA.r)); exact Kd.Q_mono (zX (zX (Kd.Q_mono (Kd.Q_mono HO_9.out (fun k_ hk => (⟨hk, hk.1.2⟩ : _ ∧ k_ ≠ gb153))) (fun k_ hk => (⟨hk, hk.1.2⟩ : _ ∧ k_ ≠ gb154))) gb153 (fun _ hk => hk.1.2) (.int .i64 t147) (.int .i64 t148) (.string t149)) gb154 (fun _ hk => hk.2) (.int .i64 t150) (.int .i64 t151) (.string t152)) (fun _ hk => ⟨hk.1.1.1.1.1.1.1, ⟨hk.1.1.1.1.1.1.2, ⟨hk.1.1.1.1.1.2, ⟨hk.1.1.1.1.2, ⟨hk.1.1.1.2, hk.1.1.2⟩⟩⟩⟩⟩)⟩, ⟨by (with_reducible repeat (first | apply zA.a | apply zA.n | apply zA.d)); exact R_mono (zY (zY (R_mono (R_mono HO_10.out (fun k_ hk => (⟨hk, hk.1.2⟩ : _ ∧ k_ ≠ gb153))) (fun k_ hk => (⟨hk, hk.1.2⟩ : _ ∧ k_ ≠ gb154))) gb153 (fun _ hk => hk.1.2) (.int .i64 t147) (.int .i64 t148) (.string t149)) gb154 (fun _ hk => hk.2) (.int .i64 t150) (.int .i64 t151) (.string t152)) (fun _ hk => ⟨hk.1.1.1.1.1.1.1, ⟨hk.1.1.1.1.1.1.2, ⟨hk.1.1.1.1.1.2, ⟨hk.1.1.1.1.2, ⟨hk.1.1.1.2, hk.1.1.2⟩⟩⟩⟩⟩)⟩, ⟨(zK BK144)⟩, ⟨(zK BK145)⟩, ⟨(zP BK153)⟩, ⟨(zP BK154)⟩, ⟨(zB HB)⟩⟩
               case rest =>
                clear HC51;(try clear c1);(try clear p1);(try clear q1);(try clear hx1);(try clear qi1);(try clear c2);(try clear p2);(try clear c3);(try clear q3);(try clear c4);(try clear q4);(try clear c5);(try clear c5b0);(try clear c5b1);(try clear c6);(try clear c6b0);(try clear c6b1);(try clear c7);(try clear c8);(try clear c9);(try clear c9b0);(try clear c9b1);(try clear p11);(try clear q11);(try clear hx11);(try clear qi11);(try clear p12);(try clear q12);(try clear hx12);(try clear qi12);(try clear p13);(try clear q13);(try clear hx13);(try clear qi13);(try clear p14);(try clear q14);(try clear hx14);(try clear qi14);(try clear c21);(try clear c21b0);(try clear c21b1);(try clear c25);(try clear c27);(try clear c27b0);(try clear c27b1);(try clear c28);(try clear c28b0);(try clear c28b1);(try clear c31);(try clear c32);(try clear c32b0);(try clear c32b1);(try clear c33);(try clear c34);(try clear c34b0);(try clear c34b1);(try clear c37);(try clear q37);(try clear c38);(try clear c38b0);(try clear c38b1);(try clear c39);(try clear c39b0);(try clear c39b1);(try clear c40);(try clear c41);(try clear c41b0);(try clear c41b1);(try clear c44);(try clear q44);(try clear c46);(try clear c46b0);(try clear c46b1);(try clear c60);(try clear c66);(try clear c67);(try clear c68);(try clear c70);(try clear c71);(try clear c72);(try clear c73);(try clear c73b0);(try clear c73b1);(try clear c74);(try clear c75);(try clear c76);(try clear c77);(try clear c80);(try clear c80b0);(try clear c80b1);(try clear c81);(try clear c82);(try clear c83);(try clear c84);(try clear c86);(try clear c87);(try clear c90);(try clear c91);(try clear c92);(try clear hcz61_0);(try clear hcz61_1);(try clear hcz61_2);(try clear hcz62_0);(try clear hcz62_1);(try clear hcz62_2);(try clear hcz69_0);(try clear hcz69_1);(try clear hcz69_2);(try clear hcz72_0);(try clear hcz72_1);(try clear hcz72_2);(try clear hcz78_0);(try clear hcz78_1);(try clear hcz78_2);(try clear hcz85_0);(try clear hcz85_1);(try clear hcz85_2);(try clear hcz88_0);(try clear hcz88_1);(try clear hcz88_2);(try clear hcz93_0);(try clear hcz93_1);(try clear hcz93_2);(try clear hfz61_0);(try clear hfz61_1);(try clear hfz61_2);(try clear hfz62_0);(try clear hfz62_1);(try clear hfz62_2);(try clear hfz69_0);(try clear hfz69_1);(try clear hfz69_2);(try clear hfz72_0);(try clear hfz72_1);(try clear hfz72_2);(try clear hfz78_0);(try clear hfz78_1);(try clear hfz78_2);(try clear hfz85_0);(try clear hfz85_1);(try clear hfz85_2);(try clear hfz88_0);(try clear hfz88_1);(try clear hfz88_2);(try clear hfz93_0);(try clear hfz93_1);(try clear hfz93_2);(try clear hx117_0);(try clear hx117_1);(try clear hx117_2);(try clear hx118_0);(try clear hx118_1);(try clear hx118_2);(try clear hx125_0);(try clear hx125_1);(try clear hx125_2);(try clear hx126_0);(try clear hx126_1);(try clear hx126_2);(try clear hx133_0);(try clear hx133_1);(try clear hx133_2);(try clear hx135_0);(try clear hx135_1);(try clear hx135_2);(try clear hx137_0);(try clear hx137_1);(try clear hx137_2);(try clear hx146_0);(try clear hx146_1);(try clear hx146_2);(try clear p1);(try clear p11);(try clear p117);(try clear p118);(try clear p125);(try clear p126);(try clear p133);(try clear p135);(try clear p137);(try clear p146);(try clear p2);(try clear q1);(try clear q11);(try clear q117);(try clear q118);(try clear q125);(try clear q126);(try clear q133);(try clear q135);(try clear q137);(try clear q146);(try clear q37);(try clear q44);obtain ⟨kq, x10_50, HA, HJ50, HO_8, HO_9, HO_10, BK144, BK145, BK153, BK154, HB⟩ := hcut
                cases kq with
                | zero => exact absurd HA.out (by simp [epitomeref09_Of.j3])
                | succ kj50 =>
                 have H := HA.out;clear HA;simp only [epitomeref09_Of.j3] at H
                 obtain ⟨y161, hy161⟩ : ∃ y_ : List (S41), y_ = (([(⟨t141, t142, t143⟩ : S41)] : List (S41))) := ⟨_, rfl⟩
                 replace H : (if 1 ≤ (x8_1.length : Int) then ((some (x8_1.drop 1 : List (S41))).bind fun y164 => (if y161.length + y164.length < 4398046511104 then ((some (y161 ++ y164 : List (S41))).bind fun y168 => ((some (([(⟨t150, t151, t152⟩ : S41)] : List (S41)) : List (S41))).bind fun y171 => (if 1 ≤ (x9_1.length : Int) then ((some (x9_1.drop 1 : List (S41))).bind fun y174 => (if y171.length + y174.length < 4398046511104 then ((some (y171 ++ y174 : List (S41))).bind fun y178 => ((epitomeref09_size.f kj50 t141 t142 t143).bind fun t181 => (if t181 = 0 then (if 1 ≤ (y168.length : Int) then ((some (y168.drop (1 : Int).toNat : List (S41))).bind fun y182 => ((epitomeref09_size.f kj50 t150 t151 t152).bind fun t185 => (if t185 = 0 then (if 1 ≤ (y178.length : Int) then (epitomeref09_Of.l0 kj50 y182 (y178.drop (1 : Int).toNat) x10_50) else (none)) else (epitomeref09_Of.l0 kj50 y182 y178 x10_50)))) else (none)) else ((epitomeref09_size.f kj50 t150 t151 t152).bind fun t189 => (if t189 = 0 then (if 1 ≤ (y178.length : Int) then (epitomeref09_Of.l0 kj50 y168 (y178.drop (1 : Int).toNat) x10_50) else (none)) else (epitomeref09_Of.l0 kj50 y168 y178 x10_50)))))) else (none))) else (none)))) else (none))) else (none)) = some (r1, r2) := by first | (rw [hy161]; with_reducible exact H) | (have H2_ := (Option.bind_some _ _).symm.trans H; rw [hy161]; with_reducible exact H2_) | (have H2_ := (Option.bind_some _ _).symm.trans H; with_reducible exact H2_) | with_reducible exact H | (rw [hy161]; exact H) | exact H
                 have Ny161 := Am hy161;clear hy161;by_cases c94 : 1 ≤ (x8_1.length : Int)
                 ·rw [if_pos c94] at H;have c94b0 := eq_true c94
                  have c94b1 : decide (1 ≤ (x8_1.length : Int)) = true := decide_eq_true c94
                  clear c94;obtain ⟨y164, hy164⟩ : ∃ y_ : List (S41), y_ = (x8_1.drop 1) := ⟨_, rfl⟩
                  replace H : (if y161.length + y164.length < 4398046511104 then ((some (y161 ++ y164 : List (S41))).bind fun y168 => ((some (([(⟨t150, t151, t152⟩ : S41)] : List (S41)) : List (S41))).bind fun y171 => (if 1 ≤ (x9_1.length : Int) then ((some (x9_1.drop 1 : List (S41))).bind fun y174 => (if y171.length + y174.length < 4398046511104 then ((some (y171 ++ y174 : List (S41))).bind fun y178 => ((epitomeref09_size.f kj50 t141 t142 t143).bind fun t181 => (if t181 = 0 then (if 1 ≤ (y168.length : Int) then ((some (y168.drop (1 : Int).toNat : List (S41))).bind fun y182 => ((epitomeref09_size.f kj50 t150 t151 t152).bind fun t185 => (if t185 = 0 then (if 1 ≤ (y178.length : Int) then (epitomeref09_Of.l0 kj50 y182 (y178.drop (1 : Int).toNat) x10_50) else (none)) else (epitomeref09_Of.l0 kj50 y182 y178 x10_50)))) else (none)) else ((epitomeref09_size.f kj50 t150 t151 t152).bind fun t189 => (if t189 = 0 then (if 1 ≤ (y178.length : Int) then (epitomeref09_Of.l0 kj50 y168 (y178.drop (1 : Int).toNat) x10_50) else (none)) else (epitomeref09_Of.l0 kj50 y168 y178 x10_50)))))) else (none))) else (none)))) else (none)) = some (r1, r2) := by first | (rw [hy164]; with_reducible exact H) | (have H2_ := (Option.bind_some _ _).symm.trans H; rw [hy164]; with_reducible exact H2_) | (have H2_ := (Option.bind_some _ _).symm.trans H; with_reducible exact H2_) | with_reducible exact H | (rw [hy164]; exact H) | exact H
                  have Ny164 := Am hy164;clear hy164;by_cases c95 : y161.length + y164.length < 4398046511104
                  ·rw [if_pos c95] at H;have LMc95 := Am c95;clear c95;obtain ⟨y168, hy168⟩ : ∃ y_ : List (S41), y_ = (y161 ++ y164) := ⟨_, rfl⟩
                   replace H : ((some (([(⟨t150, t151, t152⟩ : S41)] : List (S41)) : List (S41))).bind fun y171 => (if 1 ≤ (x9_1.length : Int) then ((some (x9_1.drop 1 : List (S41))).bind fun y174 => (if y171.length + y174.length < 4398046511104 then ((some (y171 ++ y174 : List (S41))).bind fun y178 => ((epitomeref09_size.f kj50 t141 t142 t143).bind fun t181 => (if t181 = 0 then (if 1 ≤ (y168.length : Int) then ((some (y168.drop (1 : Int).toNat : List (S41))).bind fun y182 => ((epitomeref09_size.f kj50 t150 t151 t152).bind fun t185 => (if t185 = 0 then (if 1 ≤ (y178.length : Int) then (epitomeref09_Of.l0 kj50 y182 (y178.drop (1 : Int).toNat) x10_50) else (none)) else (epitomeref09_Of.l0 kj50 y182 y178 x10_50)))) else (none)) else ((epitomeref09_size.f kj50 t150 t151 t152).bind fun t189 => (if t189 = 0 then (if 1 ≤ (y178.length : Int) then (epitomeref09_Of.l0 kj50 y168 (y178.drop (1 : Int).toNat) x10_50) else (none)) else (epitomeref09_Of.l0 kj50 y168 y178 x10_50)))))) else (none))) else (none))) = some (r1, r2) := by first | (rw [hy168]; with_reducible exact H) | (have H2_ := (Option.bind_some _ _).symm.trans H; rw [hy168]; with_reducible exact H2_) | (have H2_ := (Option.bind_some _ _).symm.trans H; with_reducible exact H2_) | with_reducible exact H | (rw [hy168]; exact H) | exact H
                   have Ny168 := Am hy168;clear hy168;obtain ⟨y171, hy171⟩ : ∃ y_ : List (S41), y_ = (([(⟨t150, t151, t152⟩ : S41)] : List (S41))) := ⟨_, rfl⟩
                   replace H : (if 1 ≤ (x9_1.length : Int) then ((some (x9_1.drop 1 : List (S41))).bind fun y174 => (if y171.length + y174.length < 4398046511104 then ((some (y171 ++ y174 : List (S41))).bind fun y178 => ((epitomeref09_size.f kj50 t141 t142 t143).bind fun t181 => (if t181 = 0 then (if 1 ≤ (y168.length : Int) then ((some (y168.drop (1 : Int).toNat : List (S41))).bind fun y182 => ((epitomeref09_size.f kj50 t150 t151 t152).bind fun t185 => (if t185 = 0 then (if 1 ≤ (y178.length : Int) then (epitomeref09_Of.l0 kj50 y182 (y178.drop (1 : Int).toNat) x10_50) else (none)) else (epitomeref09_Of.l0 kj50 y182 y178 x10_50)))) else (none)) else ((epitomeref09_size.f kj50 t150 t151 t152).bind fun t189 => (if t189 = 0 then (if 1 ≤ (y178.length : Int) then (epitomeref09_Of.l0 kj50 y168 (y178.drop (1 : Int).toNat) x10_50) else (none)) else (epitomeref09_Of.l0 kj50 y168 y178 x10_50)))))) else (none))) else (none)) = some (r1, r2) := by first | (rw [hy171]; with_reducible exact H) | (have H2_ := (Option.bind_some _ _).symm.trans H; rw [hy171]; with_reducible exact H2_) | (have H2_ := (Option.bind_some _ _).symm.trans H; with_reducible exact H2_) | with_reducible exact H | (rw [hy171]; exact H) | exact H
                   have Ny171 := Am hy171;clear hy171;by_cases c96 : 1 ≤ (x9_1.length : Int)
                   ·rw [if_pos c96] at H;have c96b0 := eq_true c96
                    have c96b1 : decide (1 ≤ (x9_1.length : Int)) = true := decide_eq_true c96
                    clear c96;obtain ⟨y174, hy174⟩ : ∃ y_ : List (S41), y_ = (x9_1.drop 1) := ⟨_, rfl⟩
                    replace H : (if y171.length + y174.length < 4398046511104 then ((some (y171 ++ y174 : List (S41))).bind fun y178 => ((epitomeref09_size.f kj50 t141 t142 t143).bind fun t181 => (if t181 = 0 then (if 1 ≤ (y168.length : Int) then ((some (y168.drop (1 : Int).toNat : List (S41))).bind fun y182 => ((epitomeref09_size.f kj50 t150 t151 t152).bind fun t185 => (if t185 = 0 then (if 1 ≤ (y178.length : Int) then (epitomeref09_Of.l0 kj50 y182 (y178.drop (1 : Int).toNat) x10_50) else (none)) else (epitomeref09_Of.l0 kj50 y182 y178 x10_50)))) else (none)) else ((epitomeref09_size.f kj50 t150 t151 t152).bind fun t189 => (if t189 = 0 then (if 1 ≤ (y178.length : Int) then (epitomeref09_Of.l0 kj50 y168 (y178.drop (1 : Int).toNat) x10_50) else (none)) else (epitomeref09_Of.l0 kj50 y168 y178 x10_50)))))) else (none)) = some (r1, r2) := by first | (rw [hy174]; with_reducible exact H) | (have H2_ := (Option.bind_some _ _).symm.trans H; rw [hy174]; with_reducible exact H2_) | (have H2_ := (Option.bind_some _ _).symm.trans H; with_reducible exact H2_) | with_reducible exact H | (rw [hy174]; exact H) | exact H
                    have Ny174 := Am hy174;clear hy174;by_cases c97 : y171.length + y174.length < 4398046511104
                    ·rw [if_pos c97] at H;have LMc97 := Am c97;clear c97;obtain ⟨y178, hy178⟩ : ∃ y_ : List (S41), y_ = (y171 ++ y174) := ⟨_, rfl⟩
                     replace H : ((epitomeref09_size.f kj50 t141 t142 t143).bind fun t181 => (if t181 = 0 then (if 1 ≤ (y168.length : Int) then ((some (y168.drop (1 : Int).toNat : List (S41))).bind fun y182 => ((epitomeref09_size.f kj50 t150 t151 t152).bind fun t185 => (if t185 = 0 then (if 1 ≤ (y178.length : Int) then (epitomeref09_Of.l0 kj50 y182 (y178.drop (1 : Int).toNat) x10_50) else (none)) else (epitomeref09_Of.l0 kj50 y182 y178 x10_50)))) else (none)) else ((epitomeref09_size.f kj50 t150 t151 t152).bind fun t189 => (if t189 = 0 then (if 1 ≤ (y178.length : Int) then (epitomeref09_Of.l0 kj50 y168 (y178.drop (1 : Int).toNat) x10_50) else (none)) else (epitomeref09_Of.l0 kj50 y168 y178 x10_50))))) = some (r1, r2) := by first | (rw [hy178]; with_reducible exact H) | (have H2_ := (Option.bind_some _ _).symm.trans H; rw [hy178]; with_reducible exact H2_) | (have H2_ := (Option.bind_some _ _).symm.trans H; with_reducible exact H2_) | with_reducible exact H | (rw [hy178]; exact H) | exact H
                     have Ny178 := Am hy178;clear hy178;replace H := Option.bind_eq_some_iff.mp H;obtain ⟨t181, A980, H⟩ := H;replace H : (if t181 = 0 then (if 1 ≤ (y168.length : Int) then ((some (y168.drop (1 : Int).toNat : List (S41))).bind fun y182 => ((epitomeref09_size.f kj50 t150 t151 t152).bind fun t185 => (if t185 = 0 then (if 1 ≤ (y178.length : Int) then (epitomeref09_Of.l0 kj50 y182 (y178.drop (1 : Int).toNat) x10_50) else (none)) else (epitomeref09_Of.l0 kj50 y182 y178 x10_50)))) else (none)) else ((epitomeref09_size.f kj50 t150 t151 t152).bind fun t189 => (if t189 = 0 then (if 1 ≤ (y178.length : Int) then (epitomeref09_Of.l0 kj50 y168 (y178.drop (1 : Int).toNat) x10_50) else (none)) else (epitomeref09_Of.l0 kj50 y168 y178 x10_50)))) = some (r1, r2) := H
                     have A98 := Am A980;clear A980;have HH_ := Am H;clear H;try go_wp2
                     replace HO_8 := Am (Kd.Q_drew HO_8.out);replace HO_9 := Am (Kd.Q_drew HO_9.out);replace HO_10 := Am (R_drew HO_10.out);replace BK144 := Am (blk_drew BK144.out);replace BK145 := Am (blk_drew BK145.out);replace BK153 := Am (blk_drew BK153.out);replace BK154 := Am (blk_drew BK154.out);replace HB := Am (below_drew1 HB.out);have q105 : (1 : Int) ≤ ((x8_1.length : Int) : Int) := of_decide_eq_true (by assumption)
                     obtain ⟨i0105, hi0105, _, hsz105, _⟩ := info_parts info41
                     have hroom105 : x8_1.length ≤ co52 := (Kd.Q_reads' HO_8.out).2.1
                     have hC105 : Kd.C k41 _ (some ad125) x8_1.length x8_1 := (Kd.Q_reads' HO_8.out).2.2
                     have hcut105 := cut_from (P := Tryd.prog) 24 41 .i64 Tryd.underlying24 hi0105 3 hsz105 (some ad125) x8_1.length co52 1 (by omega) q105
                     have hr105 := C_drop (m := (1 : Int).toNat) (c := co52) hC105 (by omega) hroom105
                     obtain ⟨A105, hA105⟩ : ∃ A1, A1 = (if co52 = (1 : Int).toNat then (some ad125) else ((some ad125) : Option Addr).map (·.add ((1 : Int).toNat * 3))) := ⟨_, rfl⟩
                     obtain ⟨c105, hc105⟩ : ∃ c1, c1 = co52 - (1 : Int).toNat := ⟨_, rfl⟩
                     have hy105 : y164.length = x8_1.length - (1 : Int).toNat := (by rw [Ny164.out, List.length_drop] <;> omega)
                     rw [show (x8_1).drop (1 : Int).toNat = y164 from Ny164.out.symm] at hr105
                     replace hr105 : Kd.C k41 _ A105 y164.length y164 := (by rw [hA105]; exact hr105)
                     rw [← hy105, ← hA105, ← hc105] at hcut105
                     have HR167 := Am hr105;have HC167 := Am (show y164.length ≤ c105 from by rw [hy105, hc105]; exact Nat.sub_le_sub_right hroom105 _)
                     clear hr105 hC105 hroom105 hi0105 hsz105 hc105;have KY105 := Am hy105;have KA105 := Am hA105;clear hy105 hA105;have KL105 := Am (show 1 ≤ x8_1.length from by omega)
                     replace q105 := eq_true q105;refine start_ (n := 6) (S := fun w' => w'.cell? ⟨gb145, 0, none⟩ = some (.int .i64 t141) ∧ w'.cell? ⟨gb145, 1, none⟩ = some (.int .i64 t142) ∧ w'.cell? ⟨gb145, 2, none⟩ = some (.string t143)) (ds := []) #[false, false, false, false, false, false] (by kernel_rfl) rfl rfl ⟨(blk_cell BK145.out 0).trans rfl, (blk_cell BK145.out 1).trans rfl, (blk_cell BK145.out 2).trans rfl⟩ (fun hHeld => ?_)
                     generalize wc.drew = w104 at HO_8 HO_9 HO_10 BK144 BK145 BK153 BK154 HB HR167 hHeld ⊢
                     refine pure_ (i := 2) (N := some 116) (v := ?_) (a' := ?_) #[false, false, true, false, false, false] rfl rfl (by kernel_rfl) (fun _ _ _ h => h) (Or.inl ⟨by rfl, ?_⟩) ?_ ?_
                     rotate_left
                     ·intro w'
                      go_simp;with_reducible rfl
                     rotate_left
                     ·simp only [Act.put, zS, i64_w, i32_w]
                      rfl
                     refine pure_ (i := 3) (N := some 117) (v := ?_) (a' := ?_) #[false, false, true, true, false, false] rfl rfl (by kernel_rfl) (fun _ _ _ h => h) (Or.inl ⟨by rfl, ?_⟩) ?_ ?_
                     rotate_left
                     ·intro w'
                      go_simp;with_reducible rfl
                     rotate_left
                     ·simp only [Act.put, zS, i64_w, i32_w]
                      rfl
                     refine take_ (i := 0) (N := some 114) (v := ?_) (a' := ?_) #[true, false, true, true, false, false] rfl rfl (by kernel_rfl) (fun _ _ _ h => h) (Or.inl ⟨by rfl, ?_⟩) hHeld ?_ ?_
                     rotate_left
                     ·rintro w' ⟨s0, s1, s2⟩
                      go_simp;with_reducible rfl
                     rotate_left
                     ·simp only [Act.put, zS, i64_w, i32_w]
                      rfl
                     refine one_ (i := 1) (N := some 115) #[true, true, true, true, false, false] rfl rfl (by kernel_rfl) (by decide) (fun K hK => ?_)
                     refine R_lit_step k41 _ 41 ?hg (N := 115) ?hd (xs := ([(⟨t141, t142, t143⟩ : S41)] : List (S41))) (inner := [.int .i64 t141, .int .i64 t142, .string t143]) (ok := fun _ => True) (okp := fun _ => True) ?hr ?hp (fun _ hk => hk) trivial (Below.refl _ _) (Nat.le_refl _) (by simp) ?_; (case hd => rfl); (case hg => rfl); (case hr => first | (go_simp; done) | (go_simp; rfl)); (case hp => exact (Reps.c3 (show Kd.M k41 _ _ _ (⟨t141, t142, t143⟩ : S41) [.int .i64 t141, .int .i64 t142, .string t143] from (k41_mkM _ _ _ (⟨t141, t142, t143⟩ : S41) )) (Reps.none _ _)))
                     intro v162 w106 ho107 hb hg_ hnew_;clear hg_ hnew_;(first | rw [← Ny161.out] at ho107 | (simp only [Int.reduceToNat] at ho107; rw [← Ny161.out] at ho107))
                     have HO163 := Am (R_lower (R_newB (R_newB (R_newB (R_newB (R_new' (R_new' (R_new' ho107 (Kd.Q_lt (zQ HO_8))) (Kd.Q_lt (zQ HO_9))) (R_lt (zR HO_10))) (g := gb144) (o := .cells #[.int .i64 t138, .int .i64 t139, .string t140] 41 (0, 0)) (zK BK144)) (g := gb145) (o := .cells #[.int .i64 t141, .int .i64 t142, .string t143] 41 (0, 0)) (zK BK145)) (g := gb153) (o := .cells #[.int .i64 t147, .int .i64 t148, .string t149] 41 (0, 0)) (zK BK153)) (g := gb154) (o := .cells #[.int .i64 t150, .int .i64 t151, .string t152] 41 (0, 0)) (zK BK154)) (below_size (zB HB)));replace HO_8 := Am (Kd.Q_elder' (zQ HO_8) (R_base ho107) hb);replace HO_9 := Am (Kd.Q_elder' (zQ HO_9) (R_base ho107) hb);replace HO_10 := Am (zr HO_10 ho107 hb);replace BK144 := Am (zU BK144 hb);replace BK145 := Am (zU BK145 hb);replace BK153 := Am (zU BK153 hb);replace BK154 := Am (zU BK154 hb);replace HR167 := Am (C_below (zJ HR167.out) hb);replace HB := Am (below_step (zB HB) hb);clear hb ho107;refine hK.out _ _ ⟨(blk_cell BK145.out 0).trans rfl, (blk_cell BK145.out 1).trans rfl, (blk_cell BK145.out 2).trans rfl⟩ (fun hHeld => ?_)
                     clear hK K;refine norm_ (a' := ?_) ?_ ?_
                     rotate_left
                     ·show Act.put _ (some 115) _ = _
                      simp only [Act.put, zS, i64_w, i32_w]
                      rfl
                     refine one_ (i := 4) (N := some 118) #[true, true, true, true, true, false] rfl rfl (by kernel_rfl) (by decide) (fun K hK => ?_)
                     refine R_append_rows_step k41 (w0 := w) w.heap.size (by rfl) (.tmp 115) (.tmp 117) 24 41 (.agg #[(.int .i64 0), (.int .i64 0), (.string ⟨#[]⟩)]) 32 rfl Tryd.underlying24 info41 rfl (by decide) (by omega) v162 y161 y164 _ _ _ (fun k_ => some k_ ≠ (.slice (some ad125) x8_1.length co52 : Value).ownBlock ∧ some k_ ≠ (.slice (some ad135) x9_1.length co54 : Value).ownBlock ∧ some k_ ≠ (u10 : Value).ownBlock ∧ k_ ≠ gb144 ∧ k_ ≠ gb145 ∧ k_ ≠ gb153 ∧ k_ ≠ gb154) (fun _ => False) rfl rfl ?aO ?aR (fun _ _ h => h) (fun _ h => h.elim) ?aF ?aB ?aS ?aL ?_
                     (case aR => repeat (first | exact (zJ HR167.out) | (with_reducible refine C_alloc ?_ _) | (with_reducible refine C_drewN ?_ _) | (with_reducible refine C_drew ?_)))
                     (case aB => exact (zB HB))
                     (case aF => exact (fun k_ hk => ⟨Kd.fresh' (Kd.Q_lt (zQ HO_8)) k_ hk, Kd.fresh' (Kd.Q_lt (zQ HO_9)) k_ hk, Kd.fresh' (R_lt (zR HO_10)) k_ hk, zm BK144 k_ hk, zm BK145 k_ hk, zm BK153 k_ hk, zm BK154 k_ hk⟩))
                     (case aO => exact (by (with_reducible repeat (first | apply zA.a | apply zA.n | apply zA.d)); exact R_mono HO163.out (fun _ hk => ⟨hk.1.1.1.1.1.1.2, ⟨hk.1.1.1.1.1.2, ⟨hk.1.1.1.1.2, ⟨hk.1.1.1.2, ⟨hk.1.1.2, ⟨hk.1.2, hk.2⟩⟩⟩⟩⟩⟩)))
                     (case aS => exact (below_size (zB HB)))
                     (case aL => have := LMc95.out; omega)
                     intro v169 w108 ho hb hg hat;rw [← Ny168.out] at ho
                     replace HO_8 := Am (Kd.Q_after (ok := (fun k_ => some k_ ≠ (.slice (some ad135) x9_1.length co54 : Value).ownBlock ∧ some k_ ≠ (u10 : Value).ownBlock ∧ k_ ≠ gb144 ∧ k_ ≠ gb145 ∧ k_ ≠ gb153 ∧ k_ ≠ gb154)) (zQ HO_8) hg hat);replace HO_9 := Am (Kd.Q_after (ok := (fun k_ => some k_ ≠ (.slice (some ad125) x8_1.length co52 : Value).ownBlock ∧ some k_ ≠ (u10 : Value).ownBlock ∧ k_ ≠ gb144 ∧ k_ ≠ gb145 ∧ k_ ≠ gb153 ∧ k_ ≠ gb154)) (zQ HO_9) hg hat);replace HO_10 := Am (R_after (ok := (fun k_ => some k_ ≠ (.slice (some ad125) x8_1.length co52 : Value).ownBlock ∧ some k_ ≠ (.slice (some ad135) x9_1.length co54 : Value).ownBlock ∧ k_ ≠ gb144 ∧ k_ ≠ gb145 ∧ k_ ≠ gb153 ∧ k_ ≠ gb154)) (zR HO_10) hg hat);replace BK144 := Am (zW BK144 hg (R_away HO163.out (fun _ hk => hk.1.1.1.2)));replace BK145 := Am (zW BK145 hg (R_away HO163.out (fun _ hk => hk.1.1.2)));replace BK153 := Am (zW BK153 hg (R_away HO163.out (fun _ hk => hk.1.2)));replace BK154 := Am (zW BK154 hg (R_away HO163.out (fun _ hk => hk.2)));replace HB := Am (hb);replace HR167 := Am ((show Kd.C k41 w108 A105 y164.length y164 from by rw [Ny164.out, KA105.out]; exact C_drop (m := 1) (c := co52) ((Kd.Q_reads' HO_8.out).2.2) KL105.out ((Kd.Q_reads' HO_8.out).2.1)));have HO170 := Am (ho);clear HO163 ho hb hg hat;refine hK.out _ _ ⟨(blk_cell BK145.out 0).trans rfl, (blk_cell BK145.out 1).trans rfl, (blk_cell BK145.out 2).trans rfl⟩ (fun hHeld => ?_)
                     clear hK K;refine norm_ (a' := ?_) ?_ ?_
                     rotate_left
                     ·show Act.put _ (some 118) _ = _
                      simp only [Act.put, zS, i64_w, i32_w]
                      rfl
                     refine pure_ (i := 5) (N := some 8) (v := ?_) (a' := ?_) #[true, true, true, true, true, true] rfl rfl (by kernel_rfl) (fun _ _ _ h => h) (Or.inl ⟨by rfl, ?_⟩) ?_ ?_
                     rotate_left
                     ·intro w'
                      go_simp;with_reducible rfl
                     rotate_left
                     ·simp only [Act.put, zS, i64_w, i32_w]
                      rfl
                     refine done_ (by kernel_rfl) ?_
                     try go_wp2
                     replace HO_8 := Am (Kd.Q_drew HO_8.out);replace HO_9 := Am (Kd.Q_drew HO_9.out);replace HO_10 := Am (R_drew HO_10.out);replace HO170 := Am (R_drew HO170.out);replace BK144 := Am (blk_drew BK144.out);replace BK145 := Am (blk_drew BK145.out);replace BK153 := Am (blk_drew BK153.out);replace BK154 := Am (blk_drew BK154.out);replace HR167 := Am (C_drew HR167.out);replace HB := Am (below_drew1 HB.out);have q110 : (1 : Int) ≤ ((x9_1.length : Int) : Int) := of_decide_eq_true (by assumption)
                     obtain ⟨i0110, hi0110, _, hsz110, _⟩ := info_parts info41
                     have hroom110 : x9_1.length ≤ co54 := (Kd.Q_reads' HO_9.out).2.1
                     have hC110 : Kd.C k41 _ (some ad135) x9_1.length x9_1 := (Kd.Q_reads' HO_9.out).2.2
                     have hcut110 := cut_from (P := Tryd.prog) 24 41 .i64 Tryd.underlying24 hi0110 3 hsz110 (some ad135) x9_1.length co54 1 (by omega) q110
                     have hr110 := C_drop (m := (1 : Int).toNat) (c := co54) hC110 (by omega) hroom110
                     obtain ⟨A110, hA110⟩ : ∃ A1, A1 = (if co54 = (1 : Int).toNat then (some ad135) else ((some ad135) : Option Addr).map (·.add ((1 : Int).toNat * 3))) := ⟨_, rfl⟩
                     obtain ⟨c110, hc110⟩ : ∃ c1, c1 = co54 - (1 : Int).toNat := ⟨_, rfl⟩
                     have hy110 : y174.length = x9_1.length - (1 : Int).toNat := (by rw [Ny174.out, List.length_drop] <;> omega)
                     rw [show (x9_1).drop (1 : Int).toNat = y174 from Ny174.out.symm] at hr110
                     replace hr110 : Kd.C k41 _ A110 y174.length y174 := (by rw [hA110]; exact hr110)
                     rw [← hy110, ← hA110, ← hc110] at hcut110
                     have HR177 := Am hr110;have HC177 := Am (show y174.length ≤ c110 from by rw [hy110, hc110]; exact Nat.sub_le_sub_right hroom110 _)
                     clear hr110 hC110 hroom110 hi0110 hsz110 hc110;have KY110 := Am hy110;have KA110 := Am hA110;clear hy110 hA110;have KL110 := Am (show 1 ≤ x9_1.length from by omega)
                     replace q110 := eq_true q110;refine start_ (n := 6) (S := fun w' => w'.cell? ⟨gb154, 0, none⟩ = some (.int .i64 t150) ∧ w'.cell? ⟨gb154, 1, none⟩ = some (.int .i64 t151) ∧ w'.cell? ⟨gb154, 2, none⟩ = some (.string t152)) (ds := []) #[false, false, false, false, false, false] (by kernel_rfl) rfl rfl ⟨(blk_cell BK154.out 0).trans rfl, (blk_cell BK154.out 1).trans rfl, (blk_cell BK154.out 2).trans rfl⟩ (fun hHeld => ?_)
                     generalize w108.drew = w109 at HO_8 HO_9 HO_10 HO170 BK144 BK145 BK153 BK154 HR167 HB HR177 hHeld ⊢
                     refine pure_ (i := 2) (N := some 121) (v := ?_) (a' := ?_) #[false, false, true, false, false, false] rfl rfl (by kernel_rfl) (fun _ _ _ h => h) (Or.inl ⟨by rfl, ?_⟩) ?_ ?_
                     rotate_left
                     ·intro w'
                      go_simp;with_reducible rfl
                     rotate_left
                     ·simp only [Act.put, zS, i64_w, i32_w]
                      rfl
                     refine pure_ (i := 3) (N := some 122) (v := ?_) (a' := ?_) #[false, false, true, true, false, false] rfl rfl (by kernel_rfl) (fun _ _ _ h => h) (Or.inl ⟨by rfl, ?_⟩) ?_ ?_
                     rotate_left
                     ·intro w'
                      go_simp;with_reducible rfl
                     rotate_left
                     ·simp only [Act.put, zS, i64_w, i32_w]
                      rfl
                     refine take_ (i := 0) (N := some 119) (v := ?_) (a' := ?_) #[true, false, true, true, false, false] rfl rfl (by kernel_rfl) (fun _ _ _ h => h) (Or.inl ⟨by rfl, ?_⟩) hHeld ?_ ?_
                     rotate_left
                     ·rintro w' ⟨s0, s1, s2⟩
                      go_simp;with_reducible rfl
                     rotate_left
                     ·simp only [Act.put, zS, i64_w, i32_w]
                      rfl
                     refine one_ (i := 1) (N := some 120) #[true, true, true, true, false, false] rfl rfl (by kernel_rfl) (by decide) (fun K hK => ?_)
                     refine R_lit_step k41 _ 41 ?hg (N := 120) ?hd (xs := ([(⟨t150, t151, t152⟩ : S41)] : List (S41))) (inner := [.int .i64 t150, .int .i64 t151, .string t152]) (ok := fun _ => True) (okp := fun _ => True) ?hr ?hp (fun _ hk => hk) trivial (Below.refl _ _) (Nat.le_refl _) (by simp) ?_; (case hd => rfl); (case hg => rfl); (case hr => first | (go_simp; done) | (go_simp; rfl)); (case hp => exact (Reps.c3 (show Kd.M k41 _ _ _ (⟨t150, t151, t152⟩ : S41) [.int .i64 t150, .int .i64 t151, .string t152] from (k41_mkM _ _ _ (⟨t150, t151, t152⟩ : S41) )) (Reps.none _ _)))
                     intro v172 w111 ho112 hb hg_ hnew_;clear hg_ hnew_;(first | rw [← Ny171.out] at ho112 | (simp only [Int.reduceToNat] at ho112; rw [← Ny171.out] at ho112))
                     have HO173 := Am (R_lower (R_newB (R_newB (R_newB (R_newB (R_new' (R_new' (R_new' (R_new' ho112 (Kd.Q_lt (zQ HO_8))) (Kd.Q_lt (zQ HO_9))) (R_lt (zR HO_10))) (R_lt (zR HO170))) (g := gb144) (o := .cells #[.int .i64 t138, .int .i64 t139, .string t140] 41 (0, 0)) (zK BK144)) (g := gb145) (o := .cells #[.int .i64 t141, .int .i64 t142, .string t143] 41 (0, 0)) (zK BK145)) (g := gb153) (o := .cells #[.int .i64 t147, .int .i64 t148, .string t149] 41 (0, 0)) (zK BK153)) (g := gb154) (o := .cells #[.int .i64 t150, .int .i64 t151, .string t152] 41 (0, 0)) (zK BK154)) (below_size (zB HB)));replace HO_8 := Am (Kd.Q_elder' (zQ HO_8) (R_base ho112) hb);replace HO_9 := Am (Kd.Q_elder' (zQ HO_9) (R_base ho112) hb);replace HO_10 := Am (zr HO_10 ho112 hb);replace HO170 := Am (zr HO170 ho112 hb);replace BK144 := Am (zU BK144 hb);replace BK145 := Am (zU BK145 hb);replace BK153 := Am (zU BK153 hb);replace BK154 := Am (zU BK154 hb);replace HR167 := Am (C_below (zJ HR167.out) hb);replace HR177 := Am (C_below (zJ HR177.out) hb);replace HB := Am (below_step (zB HB) hb);clear hb ho112;refine hK.out _ _ ⟨(blk_cell BK154.out 0).trans rfl, (blk_cell BK154.out 1).trans rfl, (blk_cell BK154.out 2).trans rfl⟩ (fun hHeld => ?_)
                     clear hK K;refine norm_ (a' := ?_) ?_ ?_
                     rotate_left
                     ·show Act.put _ (some 120) _ = _
                      simp only [Act.put, zS, i64_w, i32_w]
                      rfl
                     refine one_ (i := 4) (N := some 123) #[true, true, true, true, true, false] rfl rfl (by kernel_rfl) (by decide) (fun K hK => ?_)
                     refine R_append_rows_step k41 (w0 := w) w.heap.size (by rfl) (.tmp 120) (.tmp 122) 24 41 (.agg #[(.int .i64 0), (.int .i64 0), (.string ⟨#[]⟩)]) 32 rfl Tryd.underlying24 info41 rfl (by decide) (by omega) v172 y171 y174 _ _ _ (fun k_ => some k_ ≠ (.slice (some ad125) x8_1.length co52 : Value).ownBlock ∧ some k_ ≠ (.slice (some ad135) x9_1.length co54 : Value).ownBlock ∧ some k_ ≠ (u10 : Value).ownBlock ∧ some k_ ≠ (v169 : Value).ownBlock ∧ k_ ≠ gb144 ∧ k_ ≠ gb145 ∧ k_ ≠ gb153 ∧ k_ ≠ gb154) (fun _ => False) rfl rfl ?aO ?aR (fun _ _ h => h) (fun _ h => h.elim) ?aF ?aB ?aS ?aL ?_
                     (case aR => repeat (first | exact (zJ HR177.out) | (with_reducible refine C_alloc ?_ _) | (with_reducible refine C_drewN ?_ _) | (with_reducible refine C_drew ?_)))
                     (case aB => exact (zB HB))
                     (case aF => exact (fun k_ hk => ⟨Kd.fresh' (Kd.Q_lt (zQ HO_8)) k_ hk, Kd.fresh' (Kd.Q_lt (zQ HO_9)) k_ hk, Kd.fresh' (R_lt (zR HO_10)) k_ hk, Kd.fresh' (R_lt (zR HO170)) k_ hk, zm BK144 k_ hk, zm BK145 k_ hk, zm BK153 k_ hk, zm BK154 k_ hk⟩))
                     (case aO => exact (by (with_reducible repeat (first | apply zA.a | apply zA.n | apply zA.d)); exact R_mono HO173.out (fun _ hk => ⟨hk.1.1.1.1.1.1.1.2, ⟨hk.1.1.1.1.1.1.2, ⟨hk.1.1.1.1.1.2, ⟨hk.1.1.1.1.2, ⟨hk.1.1.1.2, ⟨hk.1.1.2, ⟨hk.1.2, hk.2⟩⟩⟩⟩⟩⟩⟩)))
                     (case aS => exact (below_size (zB HB)))
                     (case aL => have := LMc97.out; omega)
                     intro v179 w113 ho hb hg hat;rw [← Ny178.out] at ho
                     replace HO_8 := Am (Kd.Q_after (ok := (fun k_ => some k_ ≠ (.slice (some ad135) x9_1.length co54 : Value).ownBlock ∧ some k_ ≠ (u10 : Value).ownBlock ∧ some k_ ≠ (v169 : Value).ownBlock ∧ k_ ≠ gb144 ∧ k_ ≠ gb145 ∧ k_ ≠ gb153 ∧ k_ ≠ gb154)) (by (with_reducible repeat (first | apply zA.p | apply zA.q | apply zA.r)); exact Kd.Q_mono HO_8.out (fun _ hk => ⟨⟨hk.1.1.1, ⟨hk.1.1.2.1, ⟨hk.1.2, ⟨hk.1.1.2.2.1, ⟨hk.1.1.2.2.2.1, ⟨hk.1.1.2.2.2.2.1, hk.1.1.2.2.2.2.2⟩⟩⟩⟩⟩⟩, hk.2⟩)) hg hat);replace HO_9 := Am (Kd.Q_after (ok := (fun k_ => some k_ ≠ (.slice (some ad125) x8_1.length co52 : Value).ownBlock ∧ some k_ ≠ (u10 : Value).ownBlock ∧ some k_ ≠ (v169 : Value).ownBlock ∧ k_ ≠ gb144 ∧ k_ ≠ gb145 ∧ k_ ≠ gb153 ∧ k_ ≠ gb154)) (by (with_reducible repeat (first | apply zA.p | apply zA.q | apply zA.r)); exact Kd.Q_mono HO_9.out (fun _ hk => ⟨⟨hk.1.1.1, ⟨hk.1.1.2.1, ⟨hk.1.2, ⟨hk.1.1.2.2.1, ⟨hk.1.1.2.2.2.1, ⟨hk.1.1.2.2.2.2.1, hk.1.1.2.2.2.2.2⟩⟩⟩⟩⟩⟩, hk.2⟩)) hg hat);replace HO_10 := Am (R_after (ok := (fun k_ => some k_ ≠ (.slice (some ad125) x8_1.length co52 : Value).ownBlock ∧ some k_ ≠ (.slice (some ad135) x9_1.length co54 : Value).ownBlock ∧ some k_ ≠ (v169 : Value).ownBlock ∧ k_ ≠ gb144 ∧ k_ ≠ gb145 ∧ k_ ≠ gb153 ∧ k_ ≠ gb154)) (by (with_reducible repeat (first | apply zA.a | apply zA.n | apply zA.d)); exact R_mono HO_10.out (fun _ hk => ⟨⟨hk.1.1.1, ⟨hk.1.1.2.1, ⟨hk.1.2, ⟨hk.1.1.2.2.1, ⟨hk.1.1.2.2.2.1, ⟨hk.1.1.2.2.2.2.1, hk.1.1.2.2.2.2.2⟩⟩⟩⟩⟩⟩, hk.2⟩)) hg hat);replace BK144 := Am (zW BK144 hg (R_away HO173.out (fun _ hk => hk.1.1.1.2)));replace BK145 := Am (zW BK145 hg (R_away HO173.out (fun _ hk => hk.1.1.2)));replace BK153 := Am (zW BK153 hg (R_away HO173.out (fun _ hk => hk.1.2)));replace BK154 := Am (zW BK154 hg (R_away HO173.out (fun _ hk => hk.2)));replace HO170 := Am (R_after (ok := (fun k_ => some k_ ≠ (.slice (some ad125) x8_1.length co52 : Value).ownBlock ∧ some k_ ≠ (.slice (some ad135) x9_1.length co54 : Value).ownBlock ∧ some k_ ≠ (u10 : Value).ownBlock ∧ k_ ≠ gb144 ∧ k_ ≠ gb145 ∧ k_ ≠ gb153 ∧ k_ ≠ gb154)) (zR HO170) hg hat);replace HB := Am (hb);replace HR167 := Am ((show Kd.C k41 w113 A105 y164.length y164 from by rw [Ny164.out, KA105.out]; exact C_drop (m := 1) (c := co52) ((Kd.Q_reads' HO_8.out).2.2) KL105.out ((Kd.Q_reads' HO_8.out).2.1)));replace HR177 := Am ((show Kd.C k41 w113 A110 y174.length y174 from by rw [Ny174.out, KA110.out]; exact C_drop (m := 1) (c := co54) ((Kd.Q_reads' HO_9.out).2.2) KL110.out ((Kd.Q_reads' HO_9.out).2.1)));have HO180 := Am (ho);clear HO173 ho hb hg hat;refine hK.out _ _ ⟨(blk_cell BK154.out 0).trans rfl, (blk_cell BK154.out 1).trans rfl, (blk_cell BK154.out 2).trans rfl⟩ (fun hHeld => ?_)
                     clear hK K;refine norm_ (a' := ?_) ?_ ?_
                     rotate_left
                     ·show Act.put _ (some 123) _ = _
                      simp only [Act.put, zS, i64_w, i32_w]
                      rfl
                     refine pure_ (i := 5) (N := some 9) (v := ?_) (a' := ?_) #[true, true, true, true, true, true] rfl rfl (by kernel_rfl) (fun _ _ _ h => h) (Or.inl ⟨by rfl, ?_⟩) ?_ ?_
                     rotate_left
                     ·intro w'
                      go_simp;with_reducible rfl
                     rotate_left
                     ·simp only [Act.put, zS, i64_w, i32_w]
                      rfl
                     refine done_ (by kernel_rfl) ?_
                     have H := HH_.out;clear HH_;by_cases c99 : t181 = 0
                     ·rw [if_pos c99] at H;have c99b0 : (t181 == 0) = true := beq_iff_eq.mpr c99
                      have c99b1 : (t181 != 0) = false := bne_eq_false_iff_eq.mpr c99
                      clear c99;by_cases c100 : 1 ≤ (y168.length : Int)
                      ·rw [if_pos c100] at H;have c100b0 := eq_true c100
                       have c100b1 : decide (1 ≤ (y168.length : Int)) = true := decide_eq_true c100
                       clear c100;obtain ⟨y182, hy182⟩ : ∃ y_ : List (S41), y_ = (y168.drop (1 : Int).toNat) := ⟨_, rfl⟩
                       replace H : ((epitomeref09_size.f kj50 t150 t151 t152).bind fun t185 => (if t185 = 0 then (if 1 ≤ (y178.length : Int) then (epitomeref09_Of.l0 kj50 y182 (y178.drop (1 : Int).toNat) x10_50) else (none)) else (epitomeref09_Of.l0 kj50 y182 y178 x10_50))) = some (r1, r2) := by first | (rw [hy182]; with_reducible exact H) | (have H2_ := (Option.bind_some _ _).symm.trans H; rw [hy182]; with_reducible exact H2_) | (have H2_ := (Option.bind_some _ _).symm.trans H; with_reducible exact H2_) | with_reducible exact H | (rw [hy182]; exact H) | exact H
                       have Ny182 := Am hy182;clear hy182;replace H := Option.bind_eq_some_iff.mp H;obtain ⟨t185, A1010, H⟩ := H;replace H : (if t185 = 0 then (if 1 ≤ (y178.length : Int) then (epitomeref09_Of.l0 kj50 y182 (y178.drop (1 : Int).toNat) x10_50) else (none)) else (epitomeref09_Of.l0 kj50 y182 y178 x10_50)) = some (r1, r2) := H
                       have A101 := Am A1010;clear A1010;by_cases c102 : t185 = 0
                       ·rw [if_pos c102] at H;have c102b0 : (t185 == 0) = true := beq_iff_eq.mpr c102
                        have c102b1 : (t185 != 0) = false := bne_eq_false_iff_eq.mpr c102
                        clear c102;by_cases c103 : 1 ≤ (y178.length : Int)
                        ·rw [if_pos c103] at H;have c103b0 := eq_true c103
                         have c103b1 : decide (1 ≤ (y178.length : Int)) = true := decide_eq_true c103
                         clear c103;obtain ⟨y186, hy186⟩ : ∃ y_ : List (S41), y_ = (y178.drop (1 : Int).toNat) := ⟨_, rfl⟩
                         replace H : (epitomeref09_Of.l0 kj50 y182 y186 x10_50) = some (r1, r2) := by first | (rw [hy186]; with_reducible exact H) | (have H2_ := (Option.bind_some _ _).symm.trans H; rw [hy186]; with_reducible exact H2_) | (have H2_ := (Option.bind_some _ _).symm.trans H; with_reducible exact H2_) | with_reducible exact H | (rw [hy186]; exact H) | exact H
                         have Ny186 := Am hy186;clear hy186;have H' := Am H
                         clear H;have hnb114 := NB145_144.out;have hnc114 := NB144_145.out;have hnb115 := NB145_153.out;have hnc115 := NB153_145.out;have hnb116 := NB145_154.out;have hnc116 := NB154_145.out;obtain ⟨hcz117_0, hcz117_1, hcz117_2, hfz117_0, hfz117_1, hfz117_2⟩ := zc3 BK145;try go_wp2_with (first | ((with_reducible refine gate_callee (f := 72) rfl ?_); refine goesL_ (some 125) rfl rfl Tryd.func72 (by kernel_rfl) rfl #[.agg #[.int .i64 t141, .int .i64 t142, .string t143]] rfl zE ?_; (with_reducible refine (epitomeref09_size.calls kj50 t141 t142 t143 t181 _ A98.out).mono ?_); rintro e w118 ⟨rfl, hb⟩; refine ⟨_, rfl, ?_⟩; replace HO_8 := Am (Kd.Q_below (zQ HO_8) hb);replace HO_9 := Am (Kd.Q_below (zQ HO_9) hb);replace HO_10 := Am (R_below (zR HO_10) hb);replace HO170 := Am (R_below (zR HO170) hb);replace HO180 := Am (R_below (zR HO180) hb);replace BK144 := Am (zU BK144 hb);replace BK145 := Am (zU BK145 hb);replace BK153 := Am (zU BK153 hb);replace BK154 := Am (zU BK154 hb);replace HR167 := Am (C_below (zJ HR167.out) hb);replace HR177 := Am (C_below (zJ HR177.out) hb);replace HB := Am (below_step (zB HB) hb); (try clear hb); obtain ⟨Ao119, co119, eo119⟩ := R_slice HO170.out; subst eo119; have n_ := Am (R_mono (ok' := (fun k_ => some k_ ≠ (.slice (some ad125) x8_1.length co52 : Value).ownBlock ∧ some k_ ≠ (.slice (some ad135) x9_1.length co54 : Value).ownBlock ∧ some k_ ≠ (u10 : Value).ownBlock ∧ some k_ ≠ (v179 : Value).ownBlock ∧ k_ ≠ gb144 ∧ k_ ≠ gb145 ∧ k_ ≠ gb153 ∧ k_ ≠ gb154)) HO170.out (fun k_ hk => ⟨hk.1.1, ⟨hk.1.2.1, ⟨hk.1.2.2.1, ⟨hk.2, ⟨hk.1.2.2.2.1, ⟨hk.1.2.2.2.2.1, ⟨hk.1.2.2.2.2.2.1, hk.1.2.2.2.2.2.2⟩⟩⟩⟩⟩⟩⟩)); clear HO170; have HO170 := n_; clear n_; have q120 : (1 : Int) ≤ ((y168.length : Int) : Int) := of_decide_eq_true (by assumption); obtain ⟨i0120, hi0120, _, hsz120, _⟩ := info_parts info41; have hcut120 := cut_from (P := Tryd.prog) 24 41 .i64 Tryd.underlying24 hi0120 3 hsz120 Ao119 y168.length co119 1 (by omega) q120; have hr120 := Kd.Q_drop (k := (1 : Int).toNat) (Kd.Q_of_R HO170.out) (by omega); obtain ⟨A120, hA120⟩ : ∃ A1, A1 = (if co119 = (1 : Int).toNat then Ao119 else (Ao119 : Option Addr).map (·.add ((1 : Int).toNat * 3))) := ⟨_, rfl⟩; obtain ⟨c120, hc120⟩ : ∃ c1, c1 = co119 - (1 : Int).toNat := ⟨_, rfl⟩; have hy120 : y182.length = y168.length - (1 : Int).toNat := (by rw [Ny182.out, List.length_drop]); rw [← Ny182.out] at hr120; rw [← hy120, ← hA120, ← hc120] at hcut120; replace hr120 : Kd.Q k41 41 w118 w.heap.size (fun k_ => some k_ ≠ (.slice (some ad125) x8_1.length co52 : Value).ownBlock ∧ some k_ ≠ (.slice (some ad135) x9_1.length co54 : Value).ownBlock ∧ some k_ ≠ (u10 : Value).ownBlock ∧ some k_ ≠ (v179 : Value).ownBlock ∧ k_ ≠ gb144 ∧ k_ ≠ gb145 ∧ k_ ≠ gb153 ∧ k_ ≠ gb154) (.slice A120 y182.length c120) y182 := (by rw [hA120, hc120, hy120]; exact hr120); have HE120 : Aside0 ((Value.slice A120 y182.length c120).ownBlock = (.slice Ao119 y168.length co119 : Value).ownBlock) := ⟨by rw [hA120]; split <;> (cases (Ao119 : Option Addr) <;> first | rfl | exact own_add _ _ _ _ _ _)⟩; clear hy120 hi0120 hsz120 HO170 hA120 hc120; have HO184 := Am hr120; clear hr120; replace q120 := eq_true q120; have n_ := Am (Kd.Q_mono (ok' := fun k_ => ((some k_ ≠ (.slice (some ad135) x9_1.length co54 : Value).ownBlock ∧ (some k_ ≠ (u10 : Value).ownBlock ∧ (some k_ ≠ (.slice A120 y182.length c120 : Value).ownBlock ∧ (k_ ≠ gb144 ∧ (k_ ≠ gb145 ∧ (k_ ≠ gb153 ∧ k_ ≠ gb154)))))) ∧ some k_ ≠ (v179 : Value).ownBlock)) HO_8.out (fun k_ hk => ⟨⟨hk.1.1, ⟨hk.1.2.1, ⟨(by rw [HE120.out]; exact hk.1.2.2.1), ⟨hk.1.2.2.2.1, ⟨hk.1.2.2.2.2.1, ⟨hk.1.2.2.2.2.2.1, hk.1.2.2.2.2.2.2⟩⟩⟩⟩⟩⟩, hk.2⟩)); clear HO_8; have HO_8 := n_; clear n_; have n_ := Am (Kd.Q_mono (ok' := fun k_ => ((some k_ ≠ (.slice (some ad125) x8_1.length co52 : Value).ownBlock ∧ (some k_ ≠ (u10 : Value).ownBlock ∧ (some k_ ≠ (.slice A120 y182.length c120 : Value).ownBlock ∧ (k_ ≠ gb144 ∧ (k_ ≠ gb145 ∧ (k_ ≠ gb153 ∧ k_ ≠ gb154)))))) ∧ some k_ ≠ (v179 : Value).ownBlock)) HO_9.out (fun k_ hk => ⟨⟨hk.1.1, ⟨hk.1.2.1, ⟨(by rw [HE120.out]; exact hk.1.2.2.1), ⟨hk.1.2.2.2.1, ⟨hk.1.2.2.2.2.1, ⟨hk.1.2.2.2.2.2.1, hk.1.2.2.2.2.2.2⟩⟩⟩⟩⟩⟩, hk.2⟩)); clear HO_9; have HO_9 := n_; clear n_; have n_ := Am (R_mono (ok' := fun k_ => ((some k_ ≠ (.slice (some ad125) x8_1.length co52 : Value).ownBlock ∧ (some k_ ≠ (.slice (some ad135) x9_1.length co54 : Value).ownBlock ∧ (some k_ ≠ (.slice A120 y182.length c120 : Value).ownBlock ∧ (k_ ≠ gb144 ∧ (k_ ≠ gb145 ∧ (k_ ≠ gb153 ∧ k_ ≠ gb154)))))) ∧ some k_ ≠ (v179 : Value).ownBlock)) HO_10.out (fun k_ hk => ⟨⟨hk.1.1, ⟨hk.1.2.1, ⟨(by rw [HE120.out]; exact hk.1.2.2.1), ⟨hk.1.2.2.2.1, ⟨hk.1.2.2.2.2.1, ⟨hk.1.2.2.2.2.2.1, hk.1.2.2.2.2.2.2⟩⟩⟩⟩⟩⟩, hk.2⟩)); clear HO_10; have HO_10 := n_; clear n_; have n_ := Am (R_mono (ok' := fun k_ => (some k_ ≠ (.slice (some ad125) x8_1.length co52 : Value).ownBlock ∧ (some k_ ≠ (.slice (some ad135) x9_1.length co54 : Value).ownBlock ∧ (some k_ ≠ (u10 : Value).ownBlock ∧ (some k_ ≠ (.slice A120 y182.length c120 : Value).ownBlock ∧ (k_ ≠ gb144 ∧ (k_ ≠ gb145 ∧ (k_ ≠ gb153 ∧ k_ ≠ gb154)))))))) HO180.out (fun k_ hk => ⟨hk.1, ⟨hk.2.1, ⟨hk.2.2.1, ⟨(by rw [HE120.out]; exact hk.2.2.2.1), ⟨hk.2.2.2.2.1, ⟨hk.2.2.2.2.2.1, ⟨hk.2.2.2.2.2.2.1, hk.2.2.2.2.2.2.2⟩⟩⟩⟩⟩⟩⟩)); clear HO180; have HO180 := n_; clear n_; have hnb121 := NB154_144.out; have hnc121 := NB144_154.out; have hnb122 := NB154_153.out; have hnc122 := NB153_154.out; obtain ⟨hcz123_0, hcz123_1, hcz123_2, hfz123_0, hfz123_1, hfz123_2⟩ := zc3 BK154; (try clear A98)) | ((with_reducible refine gate_callee (f := 72) rfl ?_); refine goesL_ (some 130) rfl rfl Tryd.func72 (by kernel_rfl) rfl #[.agg #[.int .i64 t150, .int .i64 t151, .string t152]] rfl zE ?_; (with_reducible refine (epitomeref09_size.calls kj50 t150 t151 t152 t185 _ A101.out).mono ?_); rintro e w124 ⟨rfl, hb⟩; refine ⟨_, rfl, ?_⟩; replace HO_8 := Am (Kd.Q_below (zQ HO_8) hb);replace HO_9 := Am (Kd.Q_below (zQ HO_9) hb);replace HO_10 := Am (R_below (zR HO_10) hb);replace HO184 := Am (Kd.Q_below (zQ HO184) hb);replace HO180 := Am (R_below (zR HO180) hb);replace BK144 := Am (zU BK144 hb);replace BK145 := Am (zU BK145 hb);replace BK153 := Am (zU BK153 hb);replace BK154 := Am (zU BK154 hb);replace HR167 := Am (C_below (zJ HR167.out) hb);replace HR177 := Am (C_below (zJ HR177.out) hb);replace HB := Am (below_step (zB HB) hb); (try clear hb); obtain ⟨Ao125, co125, eo125⟩ := R_slice HO180.out; subst eo125; have q126 : (1 : Int) ≤ ((y178.length : Int) : Int) := of_decide_eq_true (by assumption); obtain ⟨i0126, hi0126, _, hsz126, _⟩ := info_parts info41; have hcut126 := cut_from (P := Tryd.prog) 24 41 .i64 Tryd.underlying24 hi0126 3 hsz126 Ao125 y178.length co125 1 (by omega) q126; have hr126 := Kd.Q_drop (k := (1 : Int).toNat) (Kd.Q_of_R HO180.out) (by omega); obtain ⟨A126, hA126⟩ : ∃ A1, A1 = (if co125 = (1 : Int).toNat then Ao125 else (Ao125 : Option Addr).map (·.add ((1 : Int).toNat * 3))) := ⟨_, rfl⟩; obtain ⟨c126, hc126⟩ : ∃ c1, c1 = co125 - (1 : Int).toNat := ⟨_, rfl⟩; have hy126 : y186.length = y178.length - (1 : Int).toNat := (by rw [Ny186.out, List.length_drop]); rw [← Ny186.out] at hr126; rw [← hy126, ← hA126, ← hc126] at hcut126; replace hr126 : Kd.Q k41 41 w124 w.heap.size (fun k_ => some k_ ≠ (.slice (some ad125) x8_1.length co52 : Value).ownBlock ∧ some k_ ≠ (.slice (some ad135) x9_1.length co54 : Value).ownBlock ∧ some k_ ≠ (u10 : Value).ownBlock ∧ some k_ ≠ (.slice A120 y182.length c120 : Value).ownBlock ∧ k_ ≠ gb144 ∧ k_ ≠ gb145 ∧ k_ ≠ gb153 ∧ k_ ≠ gb154) (.slice A126 y186.length c126) y186 := (by rw [hA126, hc126, hy126]; exact hr126); have HE126 : Aside0 ((Value.slice A126 y186.length c126).ownBlock = (.slice Ao125 y178.length co125 : Value).ownBlock) := ⟨by rw [hA126]; split <;> (cases (Ao125 : Option Addr) <;> first | rfl | exact own_add _ _ _ _ _ _)⟩; clear hy126 hi0126 hsz126 HO180 hA126 hc126; have HO188 := Am hr126; clear hr126; replace q126 := eq_true q126; have n_ := Am (Kd.Q_mono (ok' := fun k_ => ((some k_ ≠ (.slice (some ad135) x9_1.length co54 : Value).ownBlock ∧ (some k_ ≠ (u10 : Value).ownBlock ∧ (some k_ ≠ (.slice A120 y182.length c120 : Value).ownBlock ∧ (k_ ≠ gb144 ∧ (k_ ≠ gb145 ∧ (k_ ≠ gb153 ∧ k_ ≠ gb154)))))) ∧ some k_ ≠ (.slice A126 y186.length c126 : Value).ownBlock)) HO_8.out (fun k_ hk => ⟨⟨hk.1.1, ⟨hk.1.2.1, ⟨hk.1.2.2.1, ⟨hk.1.2.2.2.1, ⟨hk.1.2.2.2.2.1, ⟨hk.1.2.2.2.2.2.1, hk.1.2.2.2.2.2.2⟩⟩⟩⟩⟩⟩, (by rw [HE126.out]; exact hk.2)⟩)); clear HO_8; have HO_8 := n_; clear n_; have n_ := Am (Kd.Q_mono (ok' := fun k_ => ((some k_ ≠ (.slice (some ad125) x8_1.length co52 : Value).ownBlock ∧ (some k_ ≠ (u10 : Value).ownBlock ∧ (some k_ ≠ (.slice A120 y182.length c120 : Value).ownBlock ∧ (k_ ≠ gb144 ∧ (k_ ≠ gb145 ∧ (k_ ≠ gb153 ∧ k_ ≠ gb154)))))) ∧ some k_ ≠ (.slice A126 y186.length c126 : Value).ownBlock)) HO_9.out (fun k_ hk => ⟨⟨hk.1.1, ⟨hk.1.2.1, ⟨hk.1.2.2.1, ⟨hk.1.2.2.2.1, ⟨hk.1.2.2.2.2.1, ⟨hk.1.2.2.2.2.2.1, hk.1.2.2.2.2.2.2⟩⟩⟩⟩⟩⟩, (by rw [HE126.out]; exact hk.2)⟩)); clear HO_9; have HO_9 := n_; clear n_; have n_ := Am (R_mono (ok' := fun k_ => ((some k_ ≠ (.slice (some ad125) x8_1.length co52 : Value).ownBlock ∧ (some k_ ≠ (.slice (some ad135) x9_1.length co54 : Value).ownBlock ∧ (some k_ ≠ (.slice A120 y182.length c120 : Value).ownBlock ∧ (k_ ≠ gb144 ∧ (k_ ≠ gb145 ∧ (k_ ≠ gb153 ∧ k_ ≠ gb154)))))) ∧ some k_ ≠ (.slice A126 y186.length c126 : Value).ownBlock)) HO_10.out (fun k_ hk => ⟨⟨hk.1.1, ⟨hk.1.2.1, ⟨hk.1.2.2.1, ⟨hk.1.2.2.2.1, ⟨hk.1.2.2.2.2.1, ⟨hk.1.2.2.2.2.2.1, hk.1.2.2.2.2.2.2⟩⟩⟩⟩⟩⟩, (by rw [HE126.out]; exact hk.2)⟩)); clear HO_10; have HO_10 := n_; clear n_; have n_ := Am (Kd.Q_mono (ok' := fun k_ => (some k_ ≠ (.slice (some ad125) x8_1.length co52 : Value).ownBlock ∧ (some k_ ≠ (.slice (some ad135) x9_1.length co54 : Value).ownBlock ∧ (some k_ ≠ (u10 : Value).ownBlock ∧ (some k_ ≠ (.slice A126 y186.length c126 : Value).ownBlock ∧ (k_ ≠ gb144 ∧ (k_ ≠ gb145 ∧ (k_ ≠ gb153 ∧ k_ ≠ gb154)))))))) HO184.out (fun k_ hk => ⟨hk.1, ⟨hk.2.1, ⟨hk.2.2.1, ⟨(by rw [HE126.out]; exact hk.2.2.2.1), ⟨hk.2.2.2.2.1, ⟨hk.2.2.2.2.2.1, ⟨hk.2.2.2.2.2.2.1, hk.2.2.2.2.2.2.2⟩⟩⟩⟩⟩⟩⟩)); clear HO184; have HO184 := n_; clear n_; (try clear A101)))
                         go_roundg kj50
                         case measure => have := HK1.out; have := HJ19.out; have := HJ25.out; have := HJ50.out; omega
                         case rel => exact ⟨(y182), (y186), (x10_50), H', ⟨by have := HK1.out; have := HJ19.out; have := HJ25.out; have := HJ50.out; omega⟩, ⟨by (with_reducible repeat (first | apply zA.p | apply zA.q | apply zA.r)); exact Kd.Q_mono HO184.out (fun _ hk => ⟨hk.2.2.2.1, hk.2.2.1⟩)⟩, ⟨by (with_reducible repeat (first | apply zA.p | apply zA.q | apply zA.r)); exact Kd.Q_mono HO188.out (fun _ hk => ⟨hk.2.2.2.1, hk.2.2.1⟩)⟩, ⟨by (with_reducible repeat (first | apply zA.a | apply zA.n | apply zA.d)); exact R_mono HO_10.out (fun _ hk => ⟨hk.1.2.2.1, hk.2⟩)⟩, ⟨(zB HB)⟩⟩
                        ·rw [if_neg c103] at H;exact absurd H (by simp)
                       ·rw [if_neg c102] at H;have c102b0 : (t185 == 0) = false := beq_eq_false_iff_ne.mpr c102
                        have c102b1 : (t185 != 0) = true := bne_iff_ne.mpr c102
                        have H' := Am H
                        clear H;have hnb137 := NB145_144.out;have hnc137 := NB144_145.out;have hnb138 := NB145_153.out;have hnc138 := NB153_145.out;have hnb139 := NB145_154.out;have hnc139 := NB154_145.out;obtain ⟨hcz140_0, hcz140_1, hcz140_2, hfz140_0, hfz140_1, hfz140_2⟩ := zc3 BK145;try go_wp2_with (first | ((with_reducible refine gate_callee (f := 72) rfl ?_); refine goesL_ (some 125) rfl rfl Tryd.func72 (by kernel_rfl) rfl #[.agg #[.int .i64 t141, .int .i64 t142, .string t143]] rfl zE ?_; (with_reducible refine (epitomeref09_size.calls kj50 t141 t142 t143 t181 _ A98.out).mono ?_); rintro e w141 ⟨rfl, hb⟩; refine ⟨_, rfl, ?_⟩; replace HO_8 := Am (Kd.Q_below (zQ HO_8) hb);replace HO_9 := Am (Kd.Q_below (zQ HO_9) hb);replace HO_10 := Am (R_below (zR HO_10) hb);replace HO170 := Am (R_below (zR HO170) hb);replace HO180 := Am (R_below (zR HO180) hb);replace BK144 := Am (zU BK144 hb);replace BK145 := Am (zU BK145 hb);replace BK153 := Am (zU BK153 hb);replace BK154 := Am (zU BK154 hb);replace HR167 := Am (C_below (zJ HR167.out) hb);replace HR177 := Am (C_below (zJ HR177.out) hb);replace HB := Am (below_step (zB HB) hb); (try clear hb); obtain ⟨Ao142, co142, eo142⟩ := R_slice HO170.out; subst eo142; have n_ := Am (R_mono (ok' := (fun k_ => some k_ ≠ (.slice (some ad125) x8_1.length co52 : Value).ownBlock ∧ some k_ ≠ (.slice (some ad135) x9_1.length co54 : Value).ownBlock ∧ some k_ ≠ (u10 : Value).ownBlock ∧ some k_ ≠ (v179 : Value).ownBlock ∧ k_ ≠ gb144 ∧ k_ ≠ gb145 ∧ k_ ≠ gb153 ∧ k_ ≠ gb154)) HO170.out (fun k_ hk => ⟨hk.1.1, ⟨hk.1.2.1, ⟨hk.1.2.2.1, ⟨hk.2, ⟨hk.1.2.2.2.1, ⟨hk.1.2.2.2.2.1, ⟨hk.1.2.2.2.2.2.1, hk.1.2.2.2.2.2.2⟩⟩⟩⟩⟩⟩⟩)); clear HO170; have HO170 := n_; clear n_; have q143 : (1 : Int) ≤ ((y168.length : Int) : Int) := of_decide_eq_true (by assumption); obtain ⟨i0143, hi0143, _, hsz143, _⟩ := info_parts info41; have hcut143 := cut_from (P := Tryd.prog) 24 41 .i64 Tryd.underlying24 hi0143 3 hsz143 Ao142 y168.length co142 1 (by omega) q143; have hr143 := Kd.Q_drop (k := (1 : Int).toNat) (Kd.Q_of_R HO170.out) (by omega); obtain ⟨A143, hA143⟩ : ∃ A1, A1 = (if co142 = (1 : Int).toNat then Ao142 else (Ao142 : Option Addr).map (·.add ((1 : Int).toNat * 3))) := ⟨_, rfl⟩; obtain ⟨c143, hc143⟩ : ∃ c1, c1 = co142 - (1 : Int).toNat := ⟨_, rfl⟩; have hy143 : y182.length = y168.length - (1 : Int).toNat := (by rw [Ny182.out, List.length_drop]); rw [← Ny182.out] at hr143; rw [← hy143, ← hA143, ← hc143] at hcut143; replace hr143 : Kd.Q k41 41 w141 w.heap.size (fun k_ => some k_ ≠ (.slice (some ad125) x8_1.length co52 : Value).ownBlock ∧ some k_ ≠ (.slice (some ad135) x9_1.length co54 : Value).ownBlock ∧ some k_ ≠ (u10 : Value).ownBlock ∧ some k_ ≠ (v179 : Value).ownBlock ∧ k_ ≠ gb144 ∧ k_ ≠ gb145 ∧ k_ ≠ gb153 ∧ k_ ≠ gb154) (.slice A143 y182.length c143) y182 := (by rw [hA143, hc143, hy143]; exact hr143); have HE143 : Aside0 ((Value.slice A143 y182.length c143).ownBlock = (.slice Ao142 y168.length co142 : Value).ownBlock) := ⟨by rw [hA143]; split <;> (cases (Ao142 : Option Addr) <;> first | rfl | exact own_add _ _ _ _ _ _)⟩; clear hy143 hi0143 hsz143 HO170 hA143 hc143; have HO184 := Am hr143; clear hr143; replace q143 := eq_true q143; have n_ := Am (Kd.Q_mono (ok' := fun k_ => ((some k_ ≠ (.slice (some ad135) x9_1.length co54 : Value).ownBlock ∧ (some k_ ≠ (u10 : Value).ownBlock ∧ (some k_ ≠ (.slice A143 y182.length c143 : Value).ownBlock ∧ (k_ ≠ gb144 ∧ (k_ ≠ gb145 ∧ (k_ ≠ gb153 ∧ k_ ≠ gb154)))))) ∧ some k_ ≠ (v179 : Value).ownBlock)) HO_8.out (fun k_ hk => ⟨⟨hk.1.1, ⟨hk.1.2.1, ⟨(by rw [HE143.out]; exact hk.1.2.2.1), ⟨hk.1.2.2.2.1, ⟨hk.1.2.2.2.2.1, ⟨hk.1.2.2.2.2.2.1, hk.1.2.2.2.2.2.2⟩⟩⟩⟩⟩⟩, hk.2⟩)); clear HO_8; have HO_8 := n_; clear n_; have n_ := Am (Kd.Q_mono (ok' := fun k_ => ((some k_ ≠ (.slice (some ad125) x8_1.length co52 : Value).ownBlock ∧ (some k_ ≠ (u10 : Value).ownBlock ∧ (some k_ ≠ (.slice A143 y182.length c143 : Value).ownBlock ∧ (k_ ≠ gb144 ∧ (k_ ≠ gb145 ∧ (k_ ≠ gb153 ∧ k_ ≠ gb154)))))) ∧ some k_ ≠ (v179 : Value).ownBlock)) HO_9.out (fun k_ hk => ⟨⟨hk.1.1, ⟨hk.1.2.1, ⟨(by rw [HE143.out]; exact hk.1.2.2.1), ⟨hk.1.2.2.2.1, ⟨hk.1.2.2.2.2.1, ⟨hk.1.2.2.2.2.2.1, hk.1.2.2.2.2.2.2⟩⟩⟩⟩⟩⟩, hk.2⟩)); clear HO_9; have HO_9 := n_; clear n_; have n_ := Am (R_mono (ok' := fun k_ => ((some k_ ≠ (.slice (some ad125) x8_1.length co52 : Value).ownBlock ∧ (some k_ ≠ (.slice (some ad135) x9_1.length co54 : Value).ownBlock ∧ (some k_ ≠ (.slice A143 y182.length c143 : Value).ownBlock ∧ (k_ ≠ gb144 ∧ (k_ ≠ gb145 ∧ (k_ ≠ gb153 ∧ k_ ≠ gb154)))))) ∧ some k_ ≠ (v179 : Value).ownBlock)) HO_10.out (fun k_ hk => ⟨⟨hk.1.1, ⟨hk.1.2.1, ⟨(by rw [HE143.out]; exact hk.1.2.2.1), ⟨hk.1.2.2.2.1, ⟨hk.1.2.2.2.2.1, ⟨hk.1.2.2.2.2.2.1, hk.1.2.2.2.2.2.2⟩⟩⟩⟩⟩⟩, hk.2⟩)); clear HO_10; have HO_10 := n_; clear n_; have n_ := Am (R_mono (ok' := fun k_ => (some k_ ≠ (.slice (some ad125) x8_1.length co52 : Value).ownBlock ∧ (some k_ ≠ (.slice (some ad135) x9_1.length co54 : Value).ownBlock ∧ (some k_ ≠ (u10 : Value).ownBlock ∧ (some k_ ≠ (.slice A143 y182.length c143 : Value).ownBlock ∧ (k_ ≠ gb144 ∧ (k_ ≠ gb145 ∧ (k_ ≠ gb153 ∧ k_ ≠ gb154)))))))) HO180.out (fun k_ hk => ⟨hk.1, ⟨hk.2.1, ⟨hk.2.2.1, ⟨(by rw [HE143.out]; exact hk.2.2.2.1), ⟨hk.2.2.2.2.1, ⟨hk.2.2.2.2.2.1, ⟨hk.2.2.2.2.2.2.1, hk.2.2.2.2.2.2.2⟩⟩⟩⟩⟩⟩⟩)); clear HO180; have HO180 := n_; clear n_; have hnb144 := NB154_144.out; have hnc144 := NB144_154.out; have hnb145 := NB154_153.out; have hnc145 := NB153_154.out; obtain ⟨hcz146_0, hcz146_1, hcz146_2, hfz146_0, hfz146_1, hfz146_2⟩ := zc3 BK154; (try clear A98)) | ((with_reducible refine gate_callee (f := 72) rfl ?_); refine goesL_ (some 130) rfl rfl Tryd.func72 (by kernel_rfl) rfl #[.agg #[.int .i64 t150, .int .i64 t151, .string t152]] rfl zE ?_; (with_reducible refine (epitomeref09_size.calls kj50 t150 t151 t152 t185 _ A101.out).mono ?_); rintro e w147 ⟨rfl, hb⟩; refine ⟨_, rfl, ?_⟩; replace HO_8 := Am (Kd.Q_below (zQ HO_8) hb);replace HO_9 := Am (Kd.Q_below (zQ HO_9) hb);replace HO_10 := Am (R_below (zR HO_10) hb);replace HO184 := Am (Kd.Q_below (zQ HO184) hb);replace HO180 := Am (R_below (zR HO180) hb);replace BK144 := Am (zU BK144 hb);replace BK145 := Am (zU BK145 hb);replace BK153 := Am (zU BK153 hb);replace BK154 := Am (zU BK154 hb);replace HR167 := Am (C_below (zJ HR167.out) hb);replace HR177 := Am (C_below (zJ HR177.out) hb);replace HB := Am (below_step (zB HB) hb); (try clear hb); (try clear A101)))
                        go_roundg kj50
                        case measure => have := HK1.out; have := HJ19.out; have := HJ25.out; have := HJ50.out; omega
                        case rel => exact ⟨(y182), (y178), (x10_50), H', ⟨by have := HK1.out; have := HJ19.out; have := HJ25.out; have := HJ50.out; omega⟩, ⟨by (with_reducible repeat (first | apply zA.p | apply zA.q | apply zA.r)); exact Kd.Q_mono HO184.out (fun _ hk => ⟨hk.2.2.2.1, hk.2.2.1⟩)⟩, ⟨Kd.Q_of_R (by (with_reducible repeat (first | apply zA.a | apply zA.n | apply zA.d)); exact R_mono HO180.out (fun _ hk => ⟨hk.2.2.2.1, hk.2.2.1⟩))⟩, ⟨by (with_reducible repeat (first | apply zA.a | apply zA.n | apply zA.d)); exact R_mono HO_10.out (fun _ hk => ⟨hk.1.2.2.1, hk.2⟩)⟩, ⟨(zB HB)⟩⟩
                      ·rw [if_neg c100] at H;exact absurd H (by simp)
                     ·rw [if_neg c99] at H;have c99b0 : (t181 == 0) = false := beq_eq_false_iff_ne.mpr c99
                      have c99b1 : (t181 != 0) = true := bne_iff_ne.mpr c99
                      replace H := Option.bind_eq_some_iff.mp H;obtain ⟨t189, A1480, H⟩ := H;replace H : (if t189 = 0 then (if 1 ≤ (y178.length : Int) then (epitomeref09_Of.l0 kj50 y168 (y178.drop (1 : Int).toNat) x10_50) else (none)) else (epitomeref09_Of.l0 kj50 y168 y178 x10_50)) = some (r1, r2) := H
                      have A148 := Am A1480;clear A1480;by_cases c149 : t189 = 0
                      ·rw [if_pos c149] at H;have c149b0 : (t189 == 0) = true := beq_iff_eq.mpr c149
                       have c149b1 : (t189 != 0) = false := bne_eq_false_iff_eq.mpr c149
                       clear c149;by_cases c150 : 1 ≤ (y178.length : Int)
                       ·rw [if_pos c150] at H;have c150b0 := eq_true c150
                        have c150b1 : decide (1 ≤ (y178.length : Int)) = true := decide_eq_true c150
                        clear c150;obtain ⟨y190, hy190⟩ : ∃ y_ : List (S41), y_ = (y178.drop (1 : Int).toNat) := ⟨_, rfl⟩
                        replace H : (epitomeref09_Of.l0 kj50 y168 y190 x10_50) = some (r1, r2) := by first | (rw [hy190]; with_reducible exact H) | (have H2_ := (Option.bind_some _ _).symm.trans H; rw [hy190]; with_reducible exact H2_) | (have H2_ := (Option.bind_some _ _).symm.trans H; with_reducible exact H2_) | with_reducible exact H | (rw [hy190]; exact H) | exact H
                        have Ny190 := Am hy190;clear hy190;have H' := Am H
                        clear H;have hnb161 := NB145_144.out;have hnc161 := NB144_145.out;have hnb162 := NB145_153.out;have hnc162 := NB153_145.out;have hnb163 := NB145_154.out;have hnc163 := NB154_145.out;obtain ⟨hcz164_0, hcz164_1, hcz164_2, hfz164_0, hfz164_1, hfz164_2⟩ := zc3 BK145;try go_wp2_with (first | ((with_reducible refine gate_callee (f := 72) rfl ?_); refine goesL_ (some 125) rfl rfl Tryd.func72 (by kernel_rfl) rfl #[.agg #[.int .i64 t141, .int .i64 t142, .string t143]] rfl zE ?_; (with_reducible refine (epitomeref09_size.calls kj50 t141 t142 t143 t181 _ A98.out).mono ?_); rintro e w165 ⟨rfl, hb⟩; refine ⟨_, rfl, ?_⟩; replace HO_8 := Am (Kd.Q_below (zQ HO_8) hb);replace HO_9 := Am (Kd.Q_below (zQ HO_9) hb);replace HO_10 := Am (R_below (zR HO_10) hb);replace HO170 := Am (R_below (zR HO170) hb);replace HO180 := Am (R_below (zR HO180) hb);replace BK144 := Am (zU BK144 hb);replace BK145 := Am (zU BK145 hb);replace BK153 := Am (zU BK153 hb);replace BK154 := Am (zU BK154 hb);replace HR167 := Am (C_below (zJ HR167.out) hb);replace HR177 := Am (C_below (zJ HR177.out) hb);replace HB := Am (below_step (zB HB) hb); (try clear hb); have hnb166 := NB154_144.out; have hnc166 := NB144_154.out; have hnb167 := NB154_153.out; have hnc167 := NB153_154.out; obtain ⟨hcz168_0, hcz168_1, hcz168_2, hfz168_0, hfz168_1, hfz168_2⟩ := zc3 BK154; (try clear A98)) | ((with_reducible refine gate_callee (f := 72) rfl ?_); refine goesL_ (some 130) rfl rfl Tryd.func72 (by kernel_rfl) rfl #[.agg #[.int .i64 t150, .int .i64 t151, .string t152]] rfl zE ?_; (with_reducible refine (epitomeref09_size.calls kj50 t150 t151 t152 t189 _ A148.out).mono ?_); rintro e w169 ⟨rfl, hb⟩; refine ⟨_, rfl, ?_⟩; replace HO_8 := Am (Kd.Q_below (zQ HO_8) hb);replace HO_9 := Am (Kd.Q_below (zQ HO_9) hb);replace HO_10 := Am (R_below (zR HO_10) hb);replace HO170 := Am (R_below (zR HO170) hb);replace HO180 := Am (R_below (zR HO180) hb);replace BK144 := Am (zU BK144 hb);replace BK145 := Am (zU BK145 hb);replace BK153 := Am (zU BK153 hb);replace BK154 := Am (zU BK154 hb);replace HR167 := Am (C_below (zJ HR167.out) hb);replace HR177 := Am (C_below (zJ HR177.out) hb);replace HB := Am (below_step (zB HB) hb); (try clear hb); obtain ⟨Ao170, co170, eo170⟩ := R_slice HO180.out; subst eo170; have q171 : (1 : Int) ≤ ((y178.length : Int) : Int) := of_decide_eq_true (by assumption); obtain ⟨i0171, hi0171, _, hsz171, _⟩ := info_parts info41; have hcut171 := cut_from (P := Tryd.prog) 24 41 .i64 Tryd.underlying24 hi0171 3 hsz171 Ao170 y178.length co170 1 (by omega) q171; have hr171 := Kd.Q_drop (k := (1 : Int).toNat) (Kd.Q_of_R HO180.out) (by omega); obtain ⟨A171, hA171⟩ : ∃ A1, A1 = (if co170 = (1 : Int).toNat then Ao170 else (Ao170 : Option Addr).map (·.add ((1 : Int).toNat * 3))) := ⟨_, rfl⟩; obtain ⟨c171, hc171⟩ : ∃ c1, c1 = co170 - (1 : Int).toNat := ⟨_, rfl⟩; have hy171 : y190.length = y178.length - (1 : Int).toNat := (by rw [Ny190.out, List.length_drop]); rw [← Ny190.out] at hr171; rw [← hy171, ← hA171, ← hc171] at hcut171; replace hr171 : Kd.Q k41 41 w169 w.heap.size (fun k_ => some k_ ≠ (.slice (some ad125) x8_1.length co52 : Value).ownBlock ∧ some k_ ≠ (.slice (some ad135) x9_1.length co54 : Value).ownBlock ∧ some k_ ≠ (u10 : Value).ownBlock ∧ some k_ ≠ (v169 : Value).ownBlock ∧ k_ ≠ gb144 ∧ k_ ≠ gb145 ∧ k_ ≠ gb153 ∧ k_ ≠ gb154) (.slice A171 y190.length c171) y190 := (by rw [hA171, hc171, hy171]; exact hr171); have HE171 : Aside0 ((Value.slice A171 y190.length c171).ownBlock = (.slice Ao170 y178.length co170 : Value).ownBlock) := ⟨by rw [hA171]; split <;> (cases (Ao170 : Option Addr) <;> first | rfl | exact own_add _ _ _ _ _ _)⟩; clear hy171 hi0171 hsz171 HO180 hA171 hc171; have HO192 := Am hr171; clear hr171; replace q171 := eq_true q171; have n_ := Am (Kd.Q_mono (ok' := fun k_ => ((some k_ ≠ (.slice (some ad135) x9_1.length co54 : Value).ownBlock ∧ (some k_ ≠ (u10 : Value).ownBlock ∧ (some k_ ≠ (v169 : Value).ownBlock ∧ (k_ ≠ gb144 ∧ (k_ ≠ gb145 ∧ (k_ ≠ gb153 ∧ k_ ≠ gb154)))))) ∧ some k_ ≠ (.slice A171 y190.length c171 : Value).ownBlock)) HO_8.out (fun k_ hk => ⟨⟨hk.1.1, ⟨hk.1.2.1, ⟨hk.1.2.2.1, ⟨hk.1.2.2.2.1, ⟨hk.1.2.2.2.2.1, ⟨hk.1.2.2.2.2.2.1, hk.1.2.2.2.2.2.2⟩⟩⟩⟩⟩⟩, (by rw [HE171.out]; exact hk.2)⟩)); clear HO_8; have HO_8 := n_; clear n_; have n_ := Am (Kd.Q_mono (ok' := fun k_ => ((some k_ ≠ (.slice (some ad125) x8_1.length co52 : Value).ownBlock ∧ (some k_ ≠ (u10 : Value).ownBlock ∧ (some k_ ≠ (v169 : Value).ownBlock ∧ (k_ ≠ gb144 ∧ (k_ ≠ gb145 ∧ (k_ ≠ gb153 ∧ k_ ≠ gb154)))))) ∧ some k_ ≠ (.slice A171 y190.length c171 : Value).ownBlock)) HO_9.out (fun k_ hk => ⟨⟨hk.1.1, ⟨hk.1.2.1, ⟨hk.1.2.2.1, ⟨hk.1.2.2.2.1, ⟨hk.1.2.2.2.2.1, ⟨hk.1.2.2.2.2.2.1, hk.1.2.2.2.2.2.2⟩⟩⟩⟩⟩⟩, (by rw [HE171.out]; exact hk.2)⟩)); clear HO_9; have HO_9 := n_; clear n_; have n_ := Am (R_mono (ok' := fun k_ => ((some k_ ≠ (.slice (some ad125) x8_1.length co52 : Value).ownBlock ∧ (some k_ ≠ (.slice (some ad135) x9_1.length co54 : Value).ownBlock ∧ (some k_ ≠ (v169 : Value).ownBlock ∧ (k_ ≠ gb144 ∧ (k_ ≠ gb145 ∧ (k_ ≠ gb153 ∧ k_ ≠ gb154)))))) ∧ some k_ ≠ (.slice A171 y190.length c171 : Value).ownBlock)) HO_10.out (fun k_ hk => ⟨⟨hk.1.1, ⟨hk.1.2.1, ⟨hk.1.2.2.1, ⟨hk.1.2.2.2.1, ⟨hk.1.2.2.2.2.1, ⟨hk.1.2.2.2.2.2.1, hk.1.2.2.2.2.2.2⟩⟩⟩⟩⟩⟩, (by rw [HE171.out]; exact hk.2)⟩)); clear HO_10; have HO_10 := n_; clear n_; have n_ := Am (R_mono (ok' := fun k_ => ((some k_ ≠ (.slice (some ad125) x8_1.length co52 : Value).ownBlock ∧ (some k_ ≠ (.slice (some ad135) x9_1.length co54 : Value).ownBlock ∧ (some k_ ≠ (u10 : Value).ownBlock ∧ (k_ ≠ gb144 ∧ (k_ ≠ gb145 ∧ (k_ ≠ gb153 ∧ k_ ≠ gb154)))))) ∧ some k_ ≠ (.slice A171 y190.length c171 : Value).ownBlock)) HO170.out (fun k_ hk => ⟨⟨hk.1.1, ⟨hk.1.2.1, ⟨hk.1.2.2.1, ⟨hk.1.2.2.2.1, ⟨hk.1.2.2.2.2.1, ⟨hk.1.2.2.2.2.2.1, hk.1.2.2.2.2.2.2⟩⟩⟩⟩⟩⟩, (by rw [HE171.out]; exact hk.2)⟩)); clear HO170; have HO170 := n_; clear n_; (try clear A148)))
                        go_roundg kj50
                        case measure => have := HK1.out; have := HJ19.out; have := HJ25.out; have := HJ50.out; omega
                        case rel => exact ⟨(y168), (y190), (x10_50), H', ⟨by have := HK1.out; have := HJ19.out; have := HJ25.out; have := HJ50.out; omega⟩, ⟨Kd.Q_of_R (by (with_reducible repeat (first | apply zA.a | apply zA.n | apply zA.d)); exact R_mono HO170.out (fun _ hk => ⟨hk.2, hk.1.2.2.1⟩))⟩, ⟨by (with_reducible repeat (first | apply zA.p | apply zA.q | apply zA.r)); exact Kd.Q_mono HO192.out (fun _ hk => ⟨hk.2.2.2.1, hk.2.2.1⟩)⟩, ⟨by (with_reducible repeat (first | apply zA.a | apply zA.n | apply zA.d)); exact R_mono HO_10.out (fun _ hk => ⟨hk.1.2.2.1, hk.2⟩)⟩, ⟨(zB HB)⟩⟩
                       ·rw [if_neg c150] at H;exact absurd H (by simp)
                      ·rw [if_neg c149] at H;have c149b0 : (t189 == 0) = false := beq_eq_false_iff_ne.mpr c149
                       have c149b1 : (t189 != 0) = true := bne_iff_ne.mpr c149
                       have H' := Am H
                       clear H;have hnb182 := NB145_144.out;have hnc182 := NB144_145.out;have hnb183 := NB145_153.out;have hnc183 := NB153_145.out;have hnb184 := NB145_154.out;have hnc184 := NB154_145.out;obtain ⟨hcz185_0, hcz185_1, hcz185_2, hfz185_0, hfz185_1, hfz185_2⟩ := zc3 BK145;try go_wp2_with (first | ((with_reducible refine gate_callee (f := 72) rfl ?_); refine goesL_ (some 125) rfl rfl Tryd.func72 (by kernel_rfl) rfl #[.agg #[.int .i64 t141, .int .i64 t142, .string t143]] rfl zE ?_; (with_reducible refine (epitomeref09_size.calls kj50 t141 t142 t143 t181 _ A98.out).mono ?_); rintro e w186 ⟨rfl, hb⟩; refine ⟨_, rfl, ?_⟩; replace HO_8 := Am (Kd.Q_below (zQ HO_8) hb);replace HO_9 := Am (Kd.Q_below (zQ HO_9) hb);replace HO_10 := Am (R_below (zR HO_10) hb);replace HO170 := Am (R_below (zR HO170) hb);replace HO180 := Am (R_below (zR HO180) hb);replace BK144 := Am (zU BK144 hb);replace BK145 := Am (zU BK145 hb);replace BK153 := Am (zU BK153 hb);replace BK154 := Am (zU BK154 hb);replace HR167 := Am (C_below (zJ HR167.out) hb);replace HR177 := Am (C_below (zJ HR177.out) hb);replace HB := Am (below_step (zB HB) hb); (try clear hb); have hnb187 := NB154_144.out; have hnc187 := NB144_154.out; have hnb188 := NB154_153.out; have hnc188 := NB153_154.out; obtain ⟨hcz189_0, hcz189_1, hcz189_2, hfz189_0, hfz189_1, hfz189_2⟩ := zc3 BK154; (try clear A98)) | ((with_reducible refine gate_callee (f := 72) rfl ?_); refine goesL_ (some 130) rfl rfl Tryd.func72 (by kernel_rfl) rfl #[.agg #[.int .i64 t150, .int .i64 t151, .string t152]] rfl zE ?_; (with_reducible refine (epitomeref09_size.calls kj50 t150 t151 t152 t189 _ A148.out).mono ?_); rintro e w190 ⟨rfl, hb⟩; refine ⟨_, rfl, ?_⟩; replace HO_8 := Am (Kd.Q_below (zQ HO_8) hb);replace HO_9 := Am (Kd.Q_below (zQ HO_9) hb);replace HO_10 := Am (R_below (zR HO_10) hb);replace HO170 := Am (R_below (zR HO170) hb);replace HO180 := Am (R_below (zR HO180) hb);replace BK144 := Am (zU BK144 hb);replace BK145 := Am (zU BK145 hb);replace BK153 := Am (zU BK153 hb);replace BK154 := Am (zU BK154 hb);replace HR167 := Am (C_below (zJ HR167.out) hb);replace HR177 := Am (C_below (zJ HR177.out) hb);replace HB := Am (below_step (zB HB) hb); (try clear hb); (try clear A148)))
                       go_roundg kj50
                       case measure => have := HK1.out; have := HJ19.out; have := HJ25.out; have := HJ50.out; omega
                       case rel => exact ⟨(y168), (y178), (x10_50), H', ⟨by have := HK1.out; have := HJ19.out; have := HJ25.out; have := HJ50.out; omega⟩, ⟨Kd.Q_of_R (by (with_reducible repeat (first | apply zA.a | apply zA.n | apply zA.d)); exact R_mono HO170.out (fun _ hk => ⟨hk.2, hk.1.2.2.1⟩))⟩, ⟨Kd.Q_of_R (by (with_reducible repeat (first | apply zA.a | apply zA.n | apply zA.d)); exact R_mono HO180.out (fun _ hk => ⟨hk.2.2.2.1, hk.2.2.1⟩))⟩, ⟨by (with_reducible repeat (first | apply zA.a | apply zA.n | apply zA.d)); exact R_mono HO_10.out (fun _ hk => ⟨hk.1.2.2.1, hk.2⟩)⟩, ⟨(zB HB)⟩⟩
                    ·rw [if_neg c97] at H;exact absurd H (by simp)
                   ·rw [if_neg c96] at H;exact absurd H (by simp)
                  ·rw [if_neg c95] at H;exact absurd H (by simp)
                 ·rw [if_neg c94] at H;exact absurd H (by simp)
              ·rw [if_neg c46] at H;exact absurd H (by simp)
            ·rw [if_neg c38] at H;exact absurd H (by simp)
        ·replace c25 := Bool.eq_false_iff.mpr c25
         subst c25
         have H1 : ((epitomeref05_Of.f kj19 x10_1).bind fun t114 => (some (t114, 0))) = some (r1, r2) := by rw [if_neg (show ¬ (false = true) by decide)] at H; exact H
         clear H;have H := H1
         clear H1;replace H := Option.bind_eq_some_iff.mp H;obtain ⟨t114, A1910, H⟩ := H;replace H : (some (t114, 0)) = some (r1, r2) := H
         have A191 := Am A1910;clear A1910;simp only [Option.some.injEq, Prod.mk.injEq] at H
         obtain ⟨rfl, rfl⟩ := H;obtain ⟨Ao192, co192, eo192⟩ := R_slice HO_10.out
         subst eo192
         go_wp2_with (first | ((with_reducible refine gate_callee (f := 59) rfl ?_); refine goesL_ (some 135) rfl rfl Tryd.func59 (by kernel_rfl) rfl #[.slice Ao192 x10_1.length co192] rfl zE ?_; (with_reducible refine (epitomeref05_Of.calls kj19 _ _ x10_1 t114 _ ?side1 ?side2 A191.out).mono ?_); (case side1 => exact zI (R_reads' HO_10.out).2.2); (case side2 => exact (R_reads' HO_10.out).2.1); rintro e w193 ⟨v115, rfl, ho0, hb⟩; refine ⟨_, rfl, ?_⟩; have HO116 := Am (R_lower (R_new' (R_new' (R_new' ho0 (Kd.Q_lt (zQ HO_8))) (Kd.Q_lt (zQ HO_9))) (R_lt (zR HO_10))) (below_size (zB HB)));replace HO_8 := Am (Kd.Q_elder' (zQ HO_8) (R_base ho0) hb);replace HO_9 := Am (Kd.Q_elder' (zQ HO_9) (R_base ho0) hb);replace HO_10 := Am (zr HO_10 ho0 hb);replace HB := Am (below_step (zB HB) hb); (try clear hb); (try clear ho0)))
         go_ret2
         exact ⟨_, zF, by (with_reducible repeat (first | apply zA.a | apply zA.n | apply zA.d)); exact R_mono HO116.out (fun _ hk => trivial), (zB HB)⟩
   ·rw [if_neg c9] at H;have c9b0 : (t103 == t104) = false := beq_eq_false_iff_ne.mpr c9
    have c9b1 : (t103 != t104) = true := bne_iff_ne.mpr c9
    simp only [Option.some.injEq, Prod.mk.injEq] at H
    obtain ⟨rfl, rfl⟩ := H;go_enter Tryd.func43, Tryd.ntmps43
    go_wp2_with (first | ((with_reducible refine gate_callee (f := 46) rfl ?_); refine goesL_ (some 17) rfl rfl Tryd.func46 (by kernel_rfl) rfl #[.slice A0 l0.length c0] rfl zE ?_; (with_reducible refine (epitomeref04_May.calls k _ _ l0 t101 _ ?side1 ?side2 A3.out).mono ?_); (case side1 => exact zI HR0.out); (case side2 => exact HC0.out); rintro e w194 ⟨rfl, hb⟩; refine ⟨_, rfl, ?_⟩; replace HB := Am (below_step (zB HB) hb); (try clear hb); (try clear A3)) | ((with_reducible refine gate_callee (f := 46) rfl ?_); refine goesL_ (some 19) rfl rfl Tryd.func46 (by kernel_rfl) rfl #[.slice A1 l1.length c1] rfl zE ?_; (with_reducible refine (epitomeref04_May.calls k _ _ l1 t102 _ ?side1 ?side2 A4.out).mono ?_); (case side1 => exact zI (C_below HR1.out HB.out)); (case side2 => exact HC1.out); rintro e w195 ⟨rfl, hb⟩; refine ⟨_, rfl, ?_⟩; replace HB := Am (below_step (zB HB) hb); (try clear hb); (try clear A4)) | ((with_reducible refine gate_callee (f := 48) rfl ?_); refine goesL_ (some 27) rfl rfl Tryd.func48 (by kernel_rfl) rfl #[.slice A0 l0.length c0] rfl zE ?_; (with_reducible refine (epitomeref04_Out.calls k _ _ l0 t103 _ ?side1 ?side2 A7.out).mono ?_); (case side1 => exact zI (C_below HR0.out HB.out)); (case side2 => exact HC0.out); rintro e w196 ⟨rfl, hb⟩; refine ⟨_, rfl, ?_⟩; replace HB := Am (below_step (zB HB) hb); (try clear hb)) | ((with_reducible refine gate_callee (f := 47) rfl ?_); refine goesL_ (some 29) rfl rfl Tryd.func47 (by kernel_rfl) rfl #[.slice A1 l1.length c1] rfl zE ?_; (with_reducible refine (epitomeref04_In.calls k _ _ l1 t104 _ ?side1 ?side2 A8.out).mono ?_); (case side1 => exact zI (C_below HR1.out HB.out)); (case side2 => exact HC1.out); rintro e w197 ⟨rfl, hb⟩; refine ⟨_, rfl, ?_⟩; replace HB := Am (below_step (zB HB) hb); (try clear hb)))
    go_ret2
    exact ⟨_, zF, by first | exact R_nil _ _ _ _ _ | exact Kd.N_nil _ _ _ _ _ | exact Kd.V_nil _ _ _ _ _ | exact Kd.Q_nil _ _ _ _ _ | exact Kd.S_nil _ _ _ _ _, (zB HB)⟩
  ·rw [if_neg c6] at H;have c6b0 : (t102 == 0) = false := beq_eq_false_iff_ne.mpr c6
   have c6b1 : (t102 != 0) = true := bne_iff_ne.mpr c6
   simp only [Option.some.injEq, Prod.mk.injEq] at H
   obtain ⟨rfl, rfl⟩ := H;go_enter Tryd.func43, Tryd.ntmps43
   go_wp2_with (first | ((with_reducible refine gate_callee (f := 46) rfl ?_); refine goesL_ (some 17) rfl rfl Tryd.func46 (by kernel_rfl) rfl #[.slice A0 l0.length c0] rfl zE ?_; (with_reducible refine (epitomeref04_May.calls k _ _ l0 t101 _ ?side1 ?side2 A3.out).mono ?_); (case side1 => exact zI HR0.out); (case side2 => exact HC0.out); rintro e w198 ⟨rfl, hb⟩; refine ⟨_, rfl, ?_⟩; replace HB := Am (below_step (zB HB) hb); (try clear hb); (try clear A3)) | ((with_reducible refine gate_callee (f := 46) rfl ?_); refine goesL_ (some 19) rfl rfl Tryd.func46 (by kernel_rfl) rfl #[.slice A1 l1.length c1] rfl zE ?_; (with_reducible refine (epitomeref04_May.calls k _ _ l1 t102 _ ?side1 ?side2 A4.out).mono ?_); (case side1 => exact zI (C_below HR1.out HB.out)); (case side2 => exact HC1.out); rintro e w199 ⟨rfl, hb⟩; refine ⟨_, rfl, ?_⟩; replace HB := Am (below_step (zB HB) hb); (try clear hb); (try clear A4)))
   go_ret2
   exact ⟨_, zF, by first | exact R_nil _ _ _ _ _ | exact Kd.N_nil _ _ _ _ _ | exact Kd.V_nil _ _ _ _ _ | exact Kd.Q_nil _ _ _ _ _ | exact Kd.S_nil _ _ _ _ _, (zB HB)⟩
 ·rw [if_neg c5] at H;have c5b0 : (t101 == 0) = false := beq_eq_false_iff_ne.mpr c5
  have c5b1 : (t101 != 0) = true := bne_iff_ne.mpr c5
  simp only [Option.some.injEq, Prod.mk.injEq] at H
  obtain ⟨rfl, rfl⟩ := H;go_enter Tryd.func43, Tryd.ntmps43
  go_wp2_with (first | ((with_reducible refine gate_callee (f := 46) rfl ?_); refine goesL_ (some 17) rfl rfl Tryd.func46 (by kernel_rfl) rfl #[.slice A0 l0.length c0] rfl zE ?_; (with_reducible refine (epitomeref04_May.calls k _ _ l0 t101 _ ?side1 ?side2 A3.out).mono ?_); (case side1 => exact zI HR0.out); (case side2 => exact HC0.out); rintro e w200 ⟨rfl, hb⟩; refine ⟨_, rfl, ?_⟩; replace HB := Am (below_step (zB HB) hb); (try clear hb); (try clear A3)) | ((with_reducible refine gate_callee (f := 46) rfl ?_); refine goesL_ (some 19) rfl rfl Tryd.func46 (by kernel_rfl) rfl #[.slice A1 l1.length c1] rfl zE ?_; (with_reducible refine (epitomeref04_May.calls k _ _ l1 t102 _ ?side1 ?side2 A4.out).mono ?_); (case side1 => exact zI (C_below HR1.out HB.out)); (case side2 => exact HC1.out); rintro e w201 ⟨rfl, hb⟩; refine ⟨_, rfl, ?_⟩; replace HB := Am (below_step (zB HB) hb); (try clear hb); (try clear A4)))
  go_ret2
  exact ⟨_, zF, by first | exact R_nil _ _ _ _ _ | exact Kd.N_nil _ _ _ _ _ | exact Kd.V_nil _ _ _ _ _ | exact Kd.Q_nil _ _ _ _ _ | exact Kd.S_nil _ _ _ _ _, (zB HB)⟩
end Go.Proofs.YthhgobiaecehbaaDoor.F
end
section
namespace Go.Proofs.YthhgobiaecehbaaDoor.F
open Go.RowKit Go.Proofs.YthhgobiaecehbaaDoorW.PrintWords Go.Proofs.YthhgobiaecehbaaDoorW.PrintLast Go.Proofs.YthhgobiaecehbaaDoorW.PrintMore
attribute [local go_sem] max2_int min2_int max_two min_two max_three min_three max_four min_four cell_setCell_isSome
set_option linter.unusedVariables false
set_option linter.unusedSimpArgs false
open Kd
def epitomeref10_Of.l0 : Nat → List (List (S41)) → List (S41) → Int → Option ((List (S41)) × Int)
  | 0, _, _, _ => none
  | k + 1, x1, x8, x10 => if x10 < (x1.length : Int) then (if 0 ≤ x10 then ((epitomeref09_Of.f k x8 (rd_L3 x1 x10)).bind fun bt108 => (epitomeref10_Of.l0 k x1 bt108.1 (wrap64 (x10 + 1)))) else (none)) else (some (x8, 0))
def epitomeref10_Of.f (k : Nat) (a0 : Int) (l1 : List (List (S41))) : Option ((List (S41)) × Int) := (epitomeref10_Chain.f k a0 l1).bind fun bt101 => (if bt101.2 = 0 then ((epitomeref04_Keep.f k a0).bind fun bt103 => (epitomeref10_Of.l0 k l1 bt103.1 0)) else (some (([] : List (S41)), bt101.2)))
theorem epitomeref10_Of.mono_l : ∀ k, (∀ y0 y1 y2, LeO (epitomeref10_Of.l0 k y0 y1 y2) (epitomeref10_Of.l0 (k + 1) y0 y1 y2))
  | 0 => fun _ _ _ r h => by simp [epitomeref10_Of.l0] at h
  | k + 1 => by
    have ih0 := epitomeref10_Of.mono_l k
    · intro y0 y1 y2
      unfold epitomeref10_Of.l0
      repeat' first
      | (with_reducible exact ih0 _ _ _)
      | (with_reducible exact epitomeref04_Keep.mono _ _)
      | (with_reducible exact epitomeref09_Of.mono _ _ _)
      | (with_reducible exact epitomeref10_Chain.mono _ _ _)
      | (with_reducible exact LeO.refl _)
      | (with_reducible exact LeO.none _)
      | (with_reducible refine LeO.ite ?_ ?_)
      | (with_reducible refine LeO.bind ?_ (fun _ => ?_))
      | exact ih0 _ _ _
      | exact epitomeref04_Keep.mono _ _
      | exact epitomeref09_Of.mono _ _ _
      | exact epitomeref10_Chain.mono _ _ _
      | exact LeO.none _
      | refine LeO.ite ?_ ?_
      | refine LeO.bind ?_ (fun _ => ?_)
set_option maxHeartbeats 40000000 in
set_option maxRecDepth 100000 in
theorem epitomeref10_Of.calls (k : Nat) (a0 : Int) (A1 : Option Addr) (c1 : Nat) (l1 : List (List (S41))) (r1 : List (S41)) (r2 : Int) (w : World) (hr1 : Kd.C (Kd.slice 41 k41) w A1 l1.length l1) (hc1 : l1.length ≤ c1) (h : epitomeref10_Of.f k a0 l1 = some (r1, r2)) :
  Calls Tryd.prog 17 #[.int .i64 a0, .slice A1 l1.length c1] w fun e w' => ∃ v0_ : Value, e = .returned (.tuple #[v0_, .int .i64 r2]) ∧ Kd.R k41 41 w' w.heap.size (fun _ => True) v0_ r1 ∧ Below w.heap.size w w' := by
 have HR1 := Am hr1;have HC1 := Am hc1;clear hr1 hc1;have HB := Am (Below.refl w.heap.size w)
 have H : ((epitomeref10_Chain.f k a0 l1).bind fun bt101 => (if bt101.2 = 0 then ((epitomeref04_Keep.f k a0).bind fun bt103 => (epitomeref10_Of.l0 k l1 bt103.1 0)) else (some (([] : List (S41)), bt101.2)))) = some (r1, r2) := h
 clear h;replace H := Option.bind_eq_some_iff.mp H;obtain ⟨⟨t101, t102⟩, A30, H⟩ := H;replace H : (if t102 = 0 then ((epitomeref04_Keep.f k a0).bind fun bt103 => (epitomeref10_Of.l0 k l1 bt103.1 0)) else (some (([] : List (S41)), t102))) = some (r1, r2) := H
 have A3 := Am A30;clear A30;by_cases c4 : t102 = 0
 ·rw [if_pos c4] at H;have c4b0 : (t102 == 0) = true := beq_iff_eq.mpr c4
  have c4b1 : (t102 != 0) = false := bne_eq_false_iff_eq.mpr c4
  clear c4;replace H := Option.bind_eq_some_iff.mp H;obtain ⟨⟨t103, t104⟩, A50, H⟩ := H;replace H : (epitomeref10_Of.l0 k l1 t103 0) = some (r1, r2) := H
  have A5 := Am A50;clear A50;have H' := Am H
  clear H;go_enter Tryd.func17, Tryd.ntmps17
  go_wp2_with (first | ((with_reducible refine gate_callee (f := 19) rfl ?_); refine goesL_ (some 14) rfl rfl Tryd.func19 (by kernel_rfl) rfl #[.int .i64 a0, .slice A1 l1.length c1] rfl zE ?_; (with_reducible refine (epitomeref10_Chain.calls k a0 _ _ l1 t101 t102 _ ?side1 ?side2 A3.out).mono ?_); (case side1 => exact zI HR1.out); (case side2 => exact HC1.out); rintro e w6 ⟨rfl, hb⟩; refine ⟨_, rfl, ?_⟩; replace HB := Am (below_step (zB HB) hb); (try clear hb)) | ((with_reducible refine gate_callee (f := 42) rfl ?_); refine goesL_ (some 22) rfl rfl Tryd.func42 (by kernel_rfl) rfl #[.int .i64 a0] rfl zE ?_; (with_reducible refine (epitomeref04_Keep.calls k a0 t103 t104 _ A5.out).mono ?_); rintro e w7 ⟨v105, rfl, ho0, hb⟩; refine ⟨_, rfl, ?_⟩; have HO106 := Am (R_lower ho0 (below_size (zB HB)));replace HB := Am (below_step (zB HB) hb); (try clear hb); (try clear ho0)))
  go_loopg [8, 10] k (fun kq v8 v10 w' => ∃ (x8_1 : List (S41)) (x10_1 : Int), v10 = .int .i64 x10_1 ∧ Aside0 (epitomeref10_Of.l0 kq l1 x8_1 x10_1 = some (r1, r2)) ∧ Aside0 (kq ≤ k) ∧ Aside0 (Kd.R k41 41 w' w.heap.size (fun _ => True) v8 x8_1) ∧ Aside0 (Below w.heap.size w w'))
  case atStart => exact ⟨(t103), (0), zG, H', ⟨Nat.le_refl _⟩, ⟨(zR HO106)⟩, ⟨(zB HB)⟩⟩
  case round =>
   clear H';(try clear c1);(try clear p2);(try clear c4);(try clear c4b0);(try clear c4b1);obtain ⟨x8_1, x10_1, rfl, HA, HK1, HO_8, HB⟩ := hrel
   cases gk with
   | zero => exact absurd HA.out (by simp [epitomeref10_Of.l0])
   | succ k1 =>
    have H := HA.out;clear HA;simp only [epitomeref10_Of.l0] at H
    by_cases c8 : x10_1 < (l1.length : Int)
    ·rw [if_pos c8] at H;have c8b0 : decide (x10_1 < (l1.length : Int)) = true := decide_eq_true c8
     clear c8;by_cases c9 : 0 ≤ x10_1
     ·rw [if_pos c9] at H;have c9b0 : decide (0 ≤ x10_1) = true := decide_eq_true c9
      clear c9;replace H := Option.bind_eq_some_iff.mp H;obtain ⟨⟨t108, t109⟩, A100, H⟩ := H;replace H : (epitomeref10_Of.l0 k1 l1 t108 (wrap64 (x10_1 + 1))) = some (r1, r2) := H
      have A10 := Am A100;clear A100;have H' := Am H
      clear H;have p107 : 0 ≤ (x10_1 : Int) := of_decide_eq_true (by assumption)
      have q107 : x10_1 < (l1.length : Int) := of_decide_eq_true (by assumption)
      obtain ⟨ad107, A107_0, c107_0, e107, hx107_0, hl107_0, hi107_0⟩ := at_L3 HR1.out x10_1 p107 q107
      cases e107
      replace hx107_0 := (HB.out.cell (World.block_lt_of_cell? w _ hx107_0)).trans hx107_0
      have HR107_0 := Am hi107_0;have HC107_0 := Am hl107_0;clear hi107_0 hl107_0;replace p107 := eq_true p107;replace q107 := eq_true q107;obtain ⟨Ao11, co11, eo11⟩ := R_slice HO_8.out
      subst eo11
      go_wp2_with (first | ((with_reducible refine gate_callee (f := 43) rfl ?_); refine goesL_ (some 37) rfl rfl Tryd.func43 (by kernel_rfl) rfl #[.slice Ao11 x8_1.length co11, .slice A107_0 (rd_L3 l1 x10_1).length c107_0] rfl zE ?_; (with_reducible refine (epitomeref09_Of.calls k1 _ _ x8_1 _ _ (rd_L3 l1 x10_1) t108 t109 _ ?side1 ?side2 ?side3 ?side4 A10.out).mono ?_); (case side1 => exact zI (R_reads' HO_8.out).2.2); (case side2 => exact (R_reads' HO_8.out).2.1); (case side3 => exact zI (C_below HR107_0.out HB.out)); (case side4 => exact HC107_0.out); rintro e w12 ⟨v110, rfl, ho0, hb⟩; refine ⟨_, rfl, ?_⟩; have HO111 := Am (R_lower (zn ho0 HO_8) (below_size (zB HB)));replace HO_8 := Am (zr HO_8 ho0 hb);replace HB := Am (below_step (zB HB) hb); (try clear hb); (try clear ho0)))
      go_roundg k1
      case measure => have := HK1.out; omega
      case rel => exact ⟨(t108), (wrap64 (x10_1 + 1)), zG, H', ⟨by have := HK1.out; omega⟩, ⟨by (with_reducible repeat (first | apply R_alloc | apply R_drewN | apply R_drew)); exact R_mono HO111.out (fun _ hk => trivial)⟩, ⟨(zB HB)⟩⟩
     ·rw [if_neg c9] at H;exact absurd H (by simp)
    ·rw [if_neg c8] at H;have c8b0 : decide (x10_1 < (l1.length : Int)) = false := decide_eq_false c8
     clear c8;simp only [Option.some.injEq, Prod.mk.injEq] at H
     obtain ⟨rfl, rfl⟩ := H;go_wp2
     go_ret2
     exact ⟨_, zF, (zR HO_8), (zB HB)⟩
 ·rw [if_neg c4] at H;have c4b0 : (t102 == 0) = false := beq_eq_false_iff_ne.mpr c4
  have c4b1 : (t102 != 0) = true := bne_iff_ne.mpr c4
  simp only [Option.some.injEq, Prod.mk.injEq] at H
  obtain ⟨rfl, rfl⟩ := H;go_enter Tryd.func17, Tryd.ntmps17
  go_wp2_with (first | ((with_reducible refine gate_callee (f := 19) rfl ?_); refine goesL_ (some 14) rfl rfl Tryd.func19 (by kernel_rfl) rfl #[.int .i64 a0, .slice A1 l1.length c1] rfl zE ?_; (with_reducible refine (epitomeref10_Chain.calls k a0 _ _ l1 t101 t102 _ ?side1 ?side2 A3.out).mono ?_); (case side1 => exact zI HR1.out); (case side2 => exact HC1.out); rintro e w13 ⟨rfl, hb⟩; refine ⟨_, rfl, ?_⟩; replace HB := Am (below_step (zB HB) hb); (try clear hb)))
  go_ret2
  exact ⟨_, zF, by first | exact R_nil _ _ _ _ _ | exact Kd.N_nil _ _ _ _ _ | exact Kd.V_nil _ _ _ _ _ | exact Kd.Q_nil _ _ _ _ _ | exact Kd.S_nil _ _ _ _ _, (zB HB)⟩
end Go.Proofs.YthhgobiaecehbaaDoor.F
end
section
namespace Go.Proofs.YthhgobiaecehbaaDoor.F
open Go.RowKit Go.Proofs.YthhgobiaecehbaaDoorW.PrintWords Go.Proofs.YthhgobiaecehbaaDoorW.PrintLast Go.Proofs.YthhgobiaecehbaaDoorW.PrintMore
attribute [local go_sem] max2_int min2_int max_two min_two max_three min_three max_four min_four cell_setCell_isSome
set_option linter.unusedVariables false
set_option linter.unusedSimpArgs false
open Kd
def epitomelaw10_FuseAll.f (k : Nat) (a0 : Int) (l1 : List (List (S41))) (a2 : Int) : Option (Bool) := (epitomelaw10_shown.f k).bind fun t101 => ((epitomelaw10_few.f k l1).bind fun t102 => ((fuse_Of.f k a0 t102).bind fun bt105 => ((epitomelaw10_few.f k l1).bind fun t109 => ((epitomeref10_Of.f k a0 t109).bind fun bt112 => ((epitomelaw10_few.f k l1).bind fun t116 => ((fuse_Chain.f k a0 t116).bind fun bt119 => ((epitomelaw10_few.f k l1).bind fun t121 => ((epitomeref10_Chain.f k a0 t121).bind fun bt124 => ((epitomeref04_Chain.f k l1 (wrap64 (Int.tmod a2 64))).bind fun t126 => ((fuse_Of.f k (wrap64 (Int.tmod a2 64)) t126).bind fun bt129 => ((epitomeref10_Of.f k (wrap64 (Int.tmod a2 64)) t126).bind fun bt133 => (if t101 = true then ((epitomeref04_Same.f k bt105.1 bt112.1).bind fun t137 => (if t137 = true then (if bt105.2 = bt112.2 then (if bt119.1 = bt124.1 then (if bt119.2 = bt124.2 then ((epitomeref04_Same.f k bt129.1 bt133.1).bind fun t138 => (if t138 = true then (if bt129.2 = bt133.2 then (some (bt129.2 == 0)) else (some false)) else (some false))) else (some false)) else (some false)) else (some false)) else (some false))) else (some false)))))))))))))
set_option maxHeartbeats 40000000 in
set_option maxRecDepth 100000 in
theorem epitomelaw10_FuseAll.calls (k : Nat) (a0 : Int) (A1 : Option Addr) (c1 : Nat) (l1 : List (List (S41))) (a2 : Int) (r : Bool) (hr_ : Aside0 (r = true)) (w : World) (hG : Glob w) (hr1 : Kd.C (Kd.slice 41 k41) w A1 l1.length l1) (hc1 : l1.length ≤ c1) (h : epitomelaw10_FuseAll.f k a0 l1 a2 = some r) :
  Calls Tryd.prog 3 #[.int .i64 a0, .slice A1 l1.length c1, .int .u8 a2] w fun e w' => e = .returned (.bool r) ∧ Below w.heap.size w w' := by
 have HG := Am hG;clear hG;have HR1 := Am hr1;have HC1 := Am hc1;clear hr1 hc1;have HB := Am (Below.refl w.heap.size w)
 have H : ((epitomelaw10_shown.f k).bind fun t101 => ((epitomelaw10_few.f k l1).bind fun t102 => ((fuse_Of.f k a0 t102).bind fun bt105 => ((epitomelaw10_few.f k l1).bind fun t109 => ((epitomeref10_Of.f k a0 t109).bind fun bt112 => ((epitomelaw10_few.f k l1).bind fun t116 => ((fuse_Chain.f k a0 t116).bind fun bt119 => ((epitomelaw10_few.f k l1).bind fun t121 => ((epitomeref10_Chain.f k a0 t121).bind fun bt124 => ((epitomeref04_Chain.f k l1 (wrap64 (Int.tmod a2 64))).bind fun t126 => ((fuse_Of.f k (wrap64 (Int.tmod a2 64)) t126).bind fun bt129 => ((epitomeref10_Of.f k (wrap64 (Int.tmod a2 64)) t126).bind fun bt133 => (if t101 = true then ((epitomeref04_Same.f k bt105.1 bt112.1).bind fun t137 => (if t137 = true then (if bt105.2 = bt112.2 then (if bt119.1 = bt124.1 then (if bt119.2 = bt124.2 then ((epitomeref04_Same.f k bt129.1 bt133.1).bind fun t138 => (if t138 = true then (if bt129.2 = bt133.2 then (some (bt129.2 == 0)) else (some false)) else (some false))) else (some false)) else (some false)) else (some false)) else (some false))) else (some false)))))))))))))) = some r := h
 clear h;replace H := Option.bind_eq_some_iff.mp H;obtain ⟨t101, A40, H⟩ := H;have A4 := Am A40;clear A40;replace H := Option.bind_eq_some_iff.mp H;obtain ⟨t102, A50, H⟩ := H;have A5 := Am A50;clear A50;replace H := Option.bind_eq_some_iff.mp H;obtain ⟨⟨t105, t106⟩, A60, H⟩ := H;have A6 := Am A60;clear A60;replace H := Option.bind_eq_some_iff.mp H;obtain ⟨t109, A70, H⟩ := H;have A7 := Am A70;clear A70;replace H := Option.bind_eq_some_iff.mp H;obtain ⟨⟨t112, t113⟩, A80, H⟩ := H;have A8 := Am A80;clear A80;replace H := Option.bind_eq_some_iff.mp H;obtain ⟨t116, A90, H⟩ := H;have A9 := Am A90;clear A90;replace H := Option.bind_eq_some_iff.mp H;obtain ⟨⟨t119, t120⟩, A100, H⟩ := H;have A10 := Am A100;clear A100;replace H := Option.bind_eq_some_iff.mp H;obtain ⟨t121, A110, H⟩ := H;have A11 := Am A110;clear A110;replace H := Option.bind_eq_some_iff.mp H;obtain ⟨⟨t124, t125⟩, A120, H⟩ := H;have A12 := Am A120;clear A120;replace H := Option.bind_eq_some_iff.mp H;obtain ⟨t126, A130, H⟩ := H;have A13 := Am A130;clear A130;replace H := Option.bind_eq_some_iff.mp H;obtain ⟨⟨t129, t130⟩, A140, H⟩ := H;have A14 := Am A140;clear A140;replace H := Option.bind_eq_some_iff.mp H;obtain ⟨⟨t133, t134⟩, A150, H⟩ := H;have A15 := Am A150;clear A150;by_cases c16 : t101 = true
 ·subst c16
  have H1 : ((epitomeref04_Same.f k t105 t112).bind fun t137 => (if t137 = true then (if t106 = t113 then (if t119 = t124 then (if t120 = t125 then ((epitomeref04_Same.f k t129 t133).bind fun t138 => (if t138 = true then (if t130 = t134 then (some (t130 == 0)) else (some false)) else (some false))) else (some false)) else (some false)) else (some false)) else (some false))) = some r := by rw [if_pos rfl] at H; exact H
  clear H;have H := H1
  clear H1;replace H := Option.bind_eq_some_iff.mp H;obtain ⟨t137, A170, H⟩ := H;have A17 := Am A170;clear A170;by_cases c18 : t137 = true
  ·subst c18
   have H1 : (if t106 = t113 then (if t119 = t124 then (if t120 = t125 then ((epitomeref04_Same.f k t129 t133).bind fun t138 => (if t138 = true then (if t130 = t134 then (some (t130 == 0)) else (some false)) else (some false))) else (some false)) else (some false)) else (some false)) = some r := by rw [if_pos rfl] at H; exact H
   clear H;have H := H1
   clear H1;by_cases c19 : t106 = t113
   ·rw [if_pos c19] at H;have c19b0 : (t106 == t113) = true := beq_iff_eq.mpr c19
    have c19b1 : (t106 != t113) = false := bne_eq_false_iff_eq.mpr c19
    clear c19;by_cases c20 : t119 = t124
    ·rw [if_pos c20] at H;have c20b0 : (t119 == t124) = true := beq_iff_eq.mpr c20
     have c20b1 : (t119 != t124) = false := bne_eq_false_iff_eq.mpr c20
     clear c20;by_cases c21 : t120 = t125
     ·rw [if_pos c21] at H;have c21b0 : (t120 == t125) = true := beq_iff_eq.mpr c21
      have c21b1 : (t120 != t125) = false := bne_eq_false_iff_eq.mpr c21
      clear c21;replace H := Option.bind_eq_some_iff.mp H;obtain ⟨t138, A220, H⟩ := H;have A22 := Am A220;clear A220;by_cases c23 : t138 = true
      ·subst c23
       have H1 : (if t130 = t134 then (some (t130 == 0)) else (some false)) = some r := by rw [if_pos rfl] at H; exact H
       clear H;have H := H1
       clear H1;by_cases c24 : t130 = t134
       ·rw [if_pos c24] at H;have c24b0 : (t130 == t134) = true := beq_iff_eq.mpr c24
        have c24b1 : (t130 != t134) = false := bne_eq_false_iff_eq.mpr c24
        clear c24;obtain rfl := Option.some.inj H;go_enter Tryd.func3, Tryd.ntmps3
        go_wp2_with (first | ((with_reducible refine gate_callee (f := 14) rfl ?_); refine goesL_ (some 21) rfl rfl Tryd.func14 (by kernel_rfl) rfl #[] rfl zE ?_; (with_reducible refine (epitomelaw10_shown.calls k  true _ ?side1 A4.out).mono ?_); (case side1 => exact zg HG HB); rintro e w25 ⟨rfl, hb⟩; refine ⟨_, rfl, ?_⟩; replace HB := Am (below_step (zB HB) hb); (try clear hb)) | ((with_reducible refine gate_callee (f := 16) rfl ?_); refine goesL_ (some 25) rfl rfl Tryd.func16 (by kernel_rfl) rfl #[.slice A1 l1.length c1] rfl zE ?_; (with_reducible refine (epitomelaw10_few.calls k _ _ l1 t102 _ ?side1 ?side2 A5.out).mono ?_); (case side1 => exact zI (C_below HR1.out HB.out)); (case side2 => exact HC1.out); rintro e w26 ⟨v103, rfl, ho0, hb⟩; refine ⟨_, rfl, ?_⟩; have HO104 := Am (Kd.S_lower ho0 (below_size (zB HB)));replace HB := Am (below_step (zB HB) hb); (try clear hb); (try clear ho0); obtain ⟨Ao27, co27, eo27⟩ := Kd.S_slice HO104.out; subst eo27; (try clear A5)) | ((with_reducible refine gate_callee (f := 15) rfl ?_); refine goesL_ (some 26) rfl rfl Tryd.func15 (by kernel_rfl) rfl #[.int .i64 a0, .slice Ao27 t102.length co27] rfl zE ?_; (with_reducible refine (fuse_Of.calls k a0 _ _ t102 t105 t106 _ ?side1 ?side2 ?side3 A6.out).mono ?_); (case side1 => exact zg HG HB); (case side2 => repeat (first | exact (Kd.S_reads' HO104.out).2.2 | (with_reducible refine C_alloc ?_ _) | (with_reducible refine C_drewN ?_ _) | (with_reducible refine C_drew ?_))); (case side3 => exact (Kd.S_reads' HO104.out).2.1); rintro e w28 ⟨v107, rfl, ho0, hb⟩; refine ⟨_, rfl, ?_⟩; replace HO104 := Am (Kd.S_elder' (by (with_reducible repeat (first | apply Kd.S_alloc | apply Kd.S_drewN | apply Kd.S_drew)); exact HO104.out) (R_base ho0) hb);have HO108 := Am (R_lower ho0 (below_size (zB HB)));replace HB := Am (below_step (zB HB) hb); (try clear hb); (try clear ho0); (try clear A6)) | ((with_reducible refine gate_callee (f := 16) rfl ?_); refine goesL_ (some 32) rfl rfl Tryd.func16 (by kernel_rfl) rfl #[.slice A1 l1.length c1] rfl zE ?_; (with_reducible refine (epitomelaw10_few.calls k _ _ l1 t109 _ ?side1 ?side2 A7.out).mono ?_); (case side1 => exact zI (C_below HR1.out HB.out)); (case side2 => exact HC1.out); rintro e w29 ⟨v110, rfl, ho0, hb⟩; refine ⟨_, rfl, ?_⟩; have HO111 := Am (Kd.S_lower (Kd.S_new' (Kd.S_new' ho0 (Kd.S_lt (by (with_reducible repeat (first | apply Kd.S_alloc | apply Kd.S_drewN | apply Kd.S_drew)); exact HO104.out))) (R_lt (zR HO108))) (below_size (zB HB)));replace HO104 := Am (Kd.S_elder' (by (with_reducible repeat (first | apply Kd.S_alloc | apply Kd.S_drewN | apply Kd.S_drew)); exact HO104.out) (Kd.S_base ho0) hb);replace HO108 := Am (R_below (zR HO108) hb);replace HB := Am (below_step (zB HB) hb); (try clear hb); (try clear ho0); obtain ⟨Ao30, co30, eo30⟩ := Kd.S_slice HO111.out; subst eo30; (try clear A7)) | ((with_reducible refine gate_callee (f := 17) rfl ?_); refine goesL_ (some 33) rfl rfl Tryd.func17 (by kernel_rfl) rfl #[.int .i64 a0, .slice Ao30 t109.length co30] rfl zE ?_; (with_reducible refine (epitomeref10_Of.calls k a0 _ _ t109 t112 t113 _ ?side1 ?side2 A8.out).mono ?_); (case side1 => repeat (first | exact (Kd.S_reads' HO111.out).2.2 | (with_reducible refine C_alloc ?_ _) | (with_reducible refine C_drewN ?_ _) | (with_reducible refine C_drew ?_))); (case side2 => exact (Kd.S_reads' HO111.out).2.1); rintro e w31 ⟨v114, rfl, ho0, hb⟩; refine ⟨_, rfl, ?_⟩; replace HO104 := Am (Kd.S_elder' (by (with_reducible repeat (first | apply Kd.S_alloc | apply Kd.S_drewN | apply Kd.S_drew)); exact HO104.out) (R_base ho0) hb);replace HO111 := Am (Kd.S_elder' (by (with_reducible repeat (first | apply Kd.S_alloc | apply Kd.S_drewN | apply Kd.S_drew)); exact HO111.out) (R_base ho0) hb);have HO115 := Am (R_lower (zn ho0 HO108) (below_size (zB HB)));replace HO108 := Am (zr HO108 ho0 hb);replace HB := Am (below_step (zB HB) hb); (try clear hb); (try clear ho0); (try clear A8)) | ((with_reducible refine gate_callee (f := 16) rfl ?_); refine goesL_ (some 39) rfl rfl Tryd.func16 (by kernel_rfl) rfl #[.slice A1 l1.length c1] rfl zE ?_; (with_reducible refine (epitomelaw10_few.calls k _ _ l1 t116 _ ?side1 ?side2 A9.out).mono ?_); (case side1 => exact zI (C_below HR1.out HB.out)); (case side2 => exact HC1.out); rintro e w32 ⟨v117, rfl, ho0, hb⟩; refine ⟨_, rfl, ?_⟩; have HO118 := Am (Kd.S_lower (Kd.S_new' (Kd.S_new' (Kd.S_new' (Kd.S_new' ho0 (Kd.S_lt (by (with_reducible repeat (first | apply Kd.S_alloc | apply Kd.S_drewN | apply Kd.S_drew)); exact HO104.out))) (R_lt (zR HO108))) (Kd.S_lt (by (with_reducible repeat (first | apply Kd.S_alloc | apply Kd.S_drewN | apply Kd.S_drew)); exact HO111.out))) (R_lt (zR HO115))) (below_size (zB HB)));replace HO104 := Am (Kd.S_elder' (by (with_reducible repeat (first | apply Kd.S_alloc | apply Kd.S_drewN | apply Kd.S_drew)); exact HO104.out) (Kd.S_base ho0) hb);replace HO108 := Am (R_below (zR HO108) hb);replace HO111 := Am (Kd.S_elder' (by (with_reducible repeat (first | apply Kd.S_alloc | apply Kd.S_drewN | apply Kd.S_drew)); exact HO111.out) (Kd.S_base ho0) hb);replace HO115 := Am (R_below (zR HO115) hb);replace HB := Am (below_step (zB HB) hb); (try clear hb); (try clear ho0); obtain ⟨Ao33, co33, eo33⟩ := Kd.S_slice HO118.out; subst eo33; (try clear A9)) | ((with_reducible refine gate_callee (f := 18) rfl ?_); refine goesL_ (some 40) rfl rfl Tryd.func18 (by kernel_rfl) rfl #[.int .i64 a0, .slice Ao33 t116.length co33] rfl zE ?_; (with_reducible refine (fuse_Chain.calls k a0 _ _ t116 t119 t120 _ ?side1 ?side2 ?side3 A10.out).mono ?_); (case side1 => exact zg HG HB); (case side2 => repeat (first | exact (Kd.S_reads' HO118.out).2.2 | (with_reducible refine C_alloc ?_ _) | (with_reducible refine C_drewN ?_ _) | (with_reducible refine C_drew ?_))); (case side3 => exact (Kd.S_reads' HO118.out).2.1); rintro e w34 ⟨rfl, hb⟩; refine ⟨_, rfl, ?_⟩; replace HO104 := Am (Kd.S_below (by (with_reducible repeat (first | apply Kd.S_alloc | apply Kd.S_drewN | apply Kd.S_drew)); exact HO104.out) hb);replace HO108 := Am (R_below (zR HO108) hb);replace HO111 := Am (Kd.S_below (by (with_reducible repeat (first | apply Kd.S_alloc | apply Kd.S_drewN | apply Kd.S_drew)); exact HO111.out) hb);replace HO115 := Am (R_below (zR HO115) hb);replace HO118 := Am (Kd.S_below (by (with_reducible repeat (first | apply Kd.S_alloc | apply Kd.S_drewN | apply Kd.S_drew)); exact HO118.out) hb);replace HB := Am (below_step (zB HB) hb); (try clear hb)) | ((with_reducible refine gate_callee (f := 16) rfl ?_); refine goesL_ (some 46) rfl rfl Tryd.func16 (by kernel_rfl) rfl #[.slice A1 l1.length c1] rfl zE ?_; (with_reducible refine (epitomelaw10_few.calls k _ _ l1 t121 _ ?side1 ?side2 A11.out).mono ?_); (case side1 => exact zI (C_below HR1.out HB.out)); (case side2 => exact HC1.out); rintro e w35 ⟨v122, rfl, ho0, hb⟩; refine ⟨_, rfl, ?_⟩; have HO123 := Am (Kd.S_lower (Kd.S_new' (Kd.S_new' (Kd.S_new' (Kd.S_new' (Kd.S_new' ho0 (Kd.S_lt (by (with_reducible repeat (first | apply Kd.S_alloc | apply Kd.S_drewN | apply Kd.S_drew)); exact HO104.out))) (R_lt (zR HO108))) (Kd.S_lt (by (with_reducible repeat (first | apply Kd.S_alloc | apply Kd.S_drewN | apply Kd.S_drew)); exact HO111.out))) (R_lt (zR HO115))) (Kd.S_lt (by (with_reducible repeat (first | apply Kd.S_alloc | apply Kd.S_drewN | apply Kd.S_drew)); exact HO118.out))) (below_size (zB HB)));replace HO104 := Am (Kd.S_elder' (by (with_reducible repeat (first | apply Kd.S_alloc | apply Kd.S_drewN | apply Kd.S_drew)); exact HO104.out) (Kd.S_base ho0) hb);replace HO108 := Am (R_below (zR HO108) hb);replace HO111 := Am (Kd.S_elder' (by (with_reducible repeat (first | apply Kd.S_alloc | apply Kd.S_drewN | apply Kd.S_drew)); exact HO111.out) (Kd.S_base ho0) hb);replace HO115 := Am (R_below (zR HO115) hb);replace HO118 := Am (Kd.S_elder' (by (with_reducible repeat (first | apply Kd.S_alloc | apply Kd.S_drewN | apply Kd.S_drew)); exact HO118.out) (Kd.S_base ho0) hb);replace HB := Am (below_step (zB HB) hb); (try clear hb); (try clear ho0); obtain ⟨Ao36, co36, eo36⟩ := Kd.S_slice HO123.out; subst eo36; (try clear A11)) | ((with_reducible refine gate_callee (f := 19) rfl ?_); refine goesL_ (some 47) rfl rfl Tryd.func19 (by kernel_rfl) rfl #[.int .i64 a0, .slice Ao36 t121.length co36] rfl zE ?_; (with_reducible refine (epitomeref10_Chain.calls k a0 _ _ t121 t124 t125 _ ?side1 ?side2 A12.out).mono ?_); (case side1 => repeat (first | exact (Kd.S_reads' HO123.out).2.2 | (with_reducible refine C_alloc ?_ _) | (with_reducible refine C_drewN ?_ _) | (with_reducible refine C_drew ?_))); (case side2 => exact (Kd.S_reads' HO123.out).2.1); rintro e w37 ⟨rfl, hb⟩; refine ⟨_, rfl, ?_⟩; replace HO104 := Am (Kd.S_below (by (with_reducible repeat (first | apply Kd.S_alloc | apply Kd.S_drewN | apply Kd.S_drew)); exact HO104.out) hb);replace HO108 := Am (R_below (zR HO108) hb);replace HO111 := Am (Kd.S_below (by (with_reducible repeat (first | apply Kd.S_alloc | apply Kd.S_drewN | apply Kd.S_drew)); exact HO111.out) hb);replace HO115 := Am (R_below (zR HO115) hb);replace HO118 := Am (Kd.S_below (by (with_reducible repeat (first | apply Kd.S_alloc | apply Kd.S_drewN | apply Kd.S_drew)); exact HO118.out) hb);replace HO123 := Am (Kd.S_below (by (with_reducible repeat (first | apply Kd.S_alloc | apply Kd.S_drewN | apply Kd.S_drew)); exact HO123.out) hb);replace HB := Am (below_step (zB HB) hb); (try clear hb)) | ((with_reducible refine gate_callee (f := 20) rfl ?_); refine goesL_ (some 54) rfl rfl Tryd.func20 (by kernel_rfl) rfl #[.slice A1 l1.length c1, .int .i64 (wrap64 (Int.tmod a2 64))] rfl zE ?_; (with_reducible refine (epitomeref04_Chain.calls k _ _ l1 (wrap64 (Int.tmod a2 64)) t126 _ ?side1 ?side2 A13.out).mono ?_); (case side1 => exact zI (C_below HR1.out HB.out)); (case side2 => exact HC1.out); rintro e w38 ⟨v127, rfl, ho0, hb⟩; refine ⟨_, rfl, ?_⟩; have HO128 := Am (Kd.S_lower (Kd.S_new' (Kd.S_new' (Kd.S_new' (Kd.S_new' (Kd.S_new' (Kd.S_new' ho0 (Kd.S_lt (by (with_reducible repeat (first | apply Kd.S_alloc | apply Kd.S_drewN | apply Kd.S_drew)); exact HO104.out))) (R_lt (zR HO108))) (Kd.S_lt (by (with_reducible repeat (first | apply Kd.S_alloc | apply Kd.S_drewN | apply Kd.S_drew)); exact HO111.out))) (R_lt (zR HO115))) (Kd.S_lt (by (with_reducible repeat (first | apply Kd.S_alloc | apply Kd.S_drewN | apply Kd.S_drew)); exact HO118.out))) (Kd.S_lt (by (with_reducible repeat (first | apply Kd.S_alloc | apply Kd.S_drewN | apply Kd.S_drew)); exact HO123.out))) (below_size (zB HB)));replace HO104 := Am (Kd.S_elder' (by (with_reducible repeat (first | apply Kd.S_alloc | apply Kd.S_drewN | apply Kd.S_drew)); exact HO104.out) (Kd.S_base ho0) hb);replace HO108 := Am (R_below (zR HO108) hb);replace HO111 := Am (Kd.S_elder' (by (with_reducible repeat (first | apply Kd.S_alloc | apply Kd.S_drewN | apply Kd.S_drew)); exact HO111.out) (Kd.S_base ho0) hb);replace HO115 := Am (R_below (zR HO115) hb);replace HO118 := Am (Kd.S_elder' (by (with_reducible repeat (first | apply Kd.S_alloc | apply Kd.S_drewN | apply Kd.S_drew)); exact HO118.out) (Kd.S_base ho0) hb);replace HO123 := Am (Kd.S_elder' (by (with_reducible repeat (first | apply Kd.S_alloc | apply Kd.S_drewN | apply Kd.S_drew)); exact HO123.out) (Kd.S_base ho0) hb);replace HB := Am (below_step (zB HB) hb); (try clear hb); (try clear ho0); obtain ⟨Ao39, co39, eo39⟩ := Kd.S_slice HO128.out; subst eo39) | ((with_reducible refine gate_callee (f := 15) rfl ?_); refine goesL_ (some 60) rfl rfl Tryd.func15 (by kernel_rfl) rfl #[.int .i64 (wrap64 (Int.tmod a2 64)), .slice Ao39 t126.length co39] rfl zE ?_; (with_reducible refine (fuse_Of.calls k (wrap64 (Int.tmod a2 64)) _ _ t126 t129 t130 _ ?side1 ?side2 ?side3 A14.out).mono ?_); (case side1 => exact zg HG HB); (case side2 => repeat (first | exact (Kd.S_reads' HO128.out).2.2 | (with_reducible refine C_alloc ?_ _) | (with_reducible refine C_drewN ?_ _) | (with_reducible refine C_drew ?_))); (case side3 => exact (Kd.S_reads' HO128.out).2.1); rintro e w40 ⟨v131, rfl, ho0, hb⟩; refine ⟨_, rfl, ?_⟩; replace HO104 := Am (Kd.S_elder' (by (with_reducible repeat (first | apply Kd.S_alloc | apply Kd.S_drewN | apply Kd.S_drew)); exact HO104.out) (R_base ho0) hb);replace HO111 := Am (Kd.S_elder' (by (with_reducible repeat (first | apply Kd.S_alloc | apply Kd.S_drewN | apply Kd.S_drew)); exact HO111.out) (R_base ho0) hb);replace HO118 := Am (Kd.S_elder' (by (with_reducible repeat (first | apply Kd.S_alloc | apply Kd.S_drewN | apply Kd.S_drew)); exact HO118.out) (R_base ho0) hb);replace HO123 := Am (Kd.S_elder' (by (with_reducible repeat (first | apply Kd.S_alloc | apply Kd.S_drewN | apply Kd.S_drew)); exact HO123.out) (R_base ho0) hb);replace HO128 := Am (Kd.S_elder' (by (with_reducible repeat (first | apply Kd.S_alloc | apply Kd.S_drewN | apply Kd.S_drew)); exact HO128.out) (R_base ho0) hb);have HO132 := Am (R_lower (zn (zn ho0 HO108) HO115) (below_size (zB HB)));replace HO108 := Am (zr HO108 ho0 hb);replace HO115 := Am (zr HO115 ho0 hb);replace HB := Am (below_step (zB HB) hb); (try clear hb); (try clear ho0); (try clear A14)) | ((with_reducible refine gate_callee (f := 17) rfl ?_); refine goesL_ (some 68) rfl rfl Tryd.func17 (by kernel_rfl) rfl #[.int .i64 (wrap64 (Int.tmod a2 64)), .slice Ao39 t126.length co39] rfl zE ?_; (with_reducible refine (epitomeref10_Of.calls k (wrap64 (Int.tmod a2 64)) _ _ t126 t133 t134 _ ?side1 ?side2 A15.out).mono ?_); (case side1 => repeat (first | exact (Kd.S_reads' HO128.out).2.2 | (with_reducible refine C_alloc ?_ _) | (with_reducible refine C_drewN ?_ _) | (with_reducible refine C_drew ?_))); (case side2 => exact (Kd.S_reads' HO128.out).2.1); rintro e w41 ⟨v135, rfl, ho0, hb⟩; refine ⟨_, rfl, ?_⟩; replace HO104 := Am (Kd.S_elder' (by (with_reducible repeat (first | apply Kd.S_alloc | apply Kd.S_drewN | apply Kd.S_drew)); exact HO104.out) (R_base ho0) hb);replace HO111 := Am (Kd.S_elder' (by (with_reducible repeat (first | apply Kd.S_alloc | apply Kd.S_drewN | apply Kd.S_drew)); exact HO111.out) (R_base ho0) hb);replace HO118 := Am (Kd.S_elder' (by (with_reducible repeat (first | apply Kd.S_alloc | apply Kd.S_drewN | apply Kd.S_drew)); exact HO118.out) (R_base ho0) hb);replace HO123 := Am (Kd.S_elder' (by (with_reducible repeat (first | apply Kd.S_alloc | apply Kd.S_drewN | apply Kd.S_drew)); exact HO123.out) (R_base ho0) hb);replace HO128 := Am (Kd.S_elder' (by (with_reducible repeat (first | apply Kd.S_alloc | apply Kd.S_drewN | apply Kd.S_drew)); exact HO128.out) (R_base ho0) hb);have HO136 := Am (R_lower (zn (zn (zn ho0 HO108) HO115) HO132) (below_size (zB HB)));replace HO108 := Am (zr HO108 ho0 hb);replace HO115 := Am (zr HO115 ho0 hb);replace HO132 := Am (zr HO132 ho0 hb);replace HB := Am (below_step (zB HB) hb); (try clear hb); (try clear ho0); obtain ⟨Ao42, co42, eo42⟩ := R_slice HO108.out; subst eo42; obtain ⟨Ao43, co43, eo43⟩ := R_slice HO115.out; subst eo43; (try clear A15)) | (go_at_call 21; (with_reducible refine (epitomeref04_Same.calls k _ _ t105 _ _ t112 true _ ?side1 ?side2 ?side3 ?side4 A17.out).mono ?_); (case side1 => exact zI (R_reads' HO108.out).2.2); (case side2 => exact (R_reads' HO108.out).2.1); (case side3 => exact zI (R_reads' HO115.out).2.2); (case side4 => exact (R_reads' HO115.out).2.1); rintro e w' ⟨rfl, ⟨nd, rfl⟩⟩; obtain ⟨Ao44, co44, eo44⟩ := R_slice HO132.out; subst eo44; obtain ⟨Ao45, co45, eo45⟩ := R_slice HO136.out; subst eo45; (try clear A17)) | (go_at_call 21; (with_reducible refine (epitomeref04_Same.calls k _ _ t129 _ _ t133 true _ ?side1 ?side2 ?side3 ?side4 A22.out).mono ?_); (case side1 => exact zI (R_reads' HO132.out).2.2); (case side2 => exact (R_reads' HO132.out).2.1); (case side3 => exact zI (R_reads' HO136.out).2.2); (case side4 => exact (R_reads' HO136.out).2.1); rintro e w' ⟨rfl, ⟨nd, rfl⟩⟩; (try clear A22)))
        go_ret
        exact ⟨zF, (zB HB)⟩
       ·rw [if_neg c24] at H;have c24b0 : (t130 == t134) = false := beq_eq_false_iff_ne.mpr c24
        have c24b1 : (t130 != t134) = true := bne_iff_ne.mpr c24
        exact Bool.noConfusion ((Option.some.inj H).trans hr_.out)
      ·replace c23 := Bool.eq_false_iff.mpr c23
       subst c23
       have H1 : (some false) = some r := by rw [if_neg (show ¬ (false = true) by decide)] at H; exact H
       clear H;have H := H1
       clear H1;exact Bool.noConfusion ((Option.some.inj H).trans hr_.out)
     ·rw [if_neg c21] at H;have c21b0 : (t120 == t125) = false := beq_eq_false_iff_ne.mpr c21
      have c21b1 : (t120 != t125) = true := bne_iff_ne.mpr c21
      exact Bool.noConfusion ((Option.some.inj H).trans hr_.out)
    ·rw [if_neg c20] at H;have c20b0 : (t119 == t124) = false := beq_eq_false_iff_ne.mpr c20
     have c20b1 : (t119 != t124) = true := bne_iff_ne.mpr c20
     exact Bool.noConfusion ((Option.some.inj H).trans hr_.out)
   ·rw [if_neg c19] at H;have c19b0 : (t106 == t113) = false := beq_eq_false_iff_ne.mpr c19
    have c19b1 : (t106 != t113) = true := bne_iff_ne.mpr c19
    exact Bool.noConfusion ((Option.some.inj H).trans hr_.out)
  ·replace c18 := Bool.eq_false_iff.mpr c18
   subst c18
   have H1 : (some false) = some r := by rw [if_neg (show ¬ (false = true) by decide)] at H; exact H
   clear H;have H := H1
   clear H1;exact Bool.noConfusion ((Option.some.inj H).trans hr_.out)
 ·replace c16 := Bool.eq_false_iff.mpr c16
  subst c16
  have H1 : (some false) = some r := by rw [if_neg (show ¬ (false = true) by decide)] at H; exact H
  clear H;have H := H1
  clear H1;exact Bool.noConfusion ((Option.some.inj H).trans hr_.out)
end Go.Proofs.YthhgobiaecehbaaDoor.F
end
section
namespace Go.Proofs.YthhgobiaecehbaaDoor.F
open Go.RowKit Go.Proofs.YthhgobiaecehbaaDoorW.PrintWords Go.Proofs.YthhgobiaecehbaaDoorW.PrintLast Go.Proofs.YthhgobiaecehbaaDoorW.PrintMore
attribute [local go_sem] max2_int min2_int max_two min_two max_three min_three max_four min_four cell_setCell_isSome
set_option linter.unusedVariables false
set_option linter.unusedSimpArgs false
open Kd
def apply_To.l0 : Nat → List Int → List Int → List (S41) → Int → Int → Option (ByteArray × Int)
  | 0, _, _, _, _, _ => none
  | k + 1, x8, x9, x29, x30, x31 => if x31 < x30 then (if 0 ≤ x31 then (if x31 < (x29.length : Int) then (if ((rd_T41 x29 x31).f0) = 2 then ((str_runes.f ((rd_T41 x29 x31).f2)).bind fun t110 => (if x9.length + t110.length < 35184372088832 then (if 0 ≤ ((rd_T41 x29 x31).f1) then (if ((rd_T41 x29 x31).f1) ≤ (x8.length : Int) then (apply_To.l0 k (x8.drop (((rd_T41 x29 x31).f1) : Int).toNat) (x9 ++ t110) x29 x30 (wrap64 (x31 + 1))) else (none)) else (none)) else (none))) else (if ((rd_T41 x29 x31).f0) = 1 then (if 0 ≤ ((rd_T41 x29 x31).f1) then (if ((rd_T41 x29 x31).f1) ≤ (x8.length : Int) then ((some (x8.take (((rd_T41 x29 x31).f1) : Int).toNat : List Int)).bind fun y119 => (if x9.length + y119.length < 35184372088832 then (apply_To.l0 k (x8.drop (((rd_T41 x29 x31).f1) : Int).toNat) (x9 ++ y119) x29 x30 (wrap64 (x31 + 1))) else (none))) else (none)) else (none)) else (if 0 ≤ ((rd_T41 x29 x31).f1) then (if ((rd_T41 x29 x31).f1) ≤ (x8.length : Int) then (apply_To.l0 k (x8.drop (((rd_T41 x29 x31).f1) : Int).toNat) x9 x29 x30 (wrap64 (x31 + 1))) else (none)) else (none)))) else (none)) else (none)) else ((runes_str.f x9).bind fun t107 => (some (t107, 0)))
def apply_To.f (k : Nat) (l0 : List (S41)) (a1 : ByteArray) : Option (ByteArray × Int) := (op_May.f k l0).bind fun t101 => (if t101 = 0 then ((points_Count.f a1).bind fun t102 => (if t102 < 0 then (some ((⟨#[]⟩ : ByteArray), 3)) else ((op_In.f k l0).bind fun t103 => (if t102 = t103 then ((str_runes.f a1).bind fun t104 => (apply_To.l0 k t104 ([] : List Int) l0 (l0.length : Int) 0)) else (some ((⟨#[]⟩ : ByteArray), 5)))))) else (some ((⟨#[]⟩ : ByteArray), t101)))
theorem apply_To.mono_l : ∀ k, (∀ y0 y1 y2 y3 y4, LeO (apply_To.l0 k y0 y1 y2 y3 y4) (apply_To.l0 (k + 1) y0 y1 y2 y3 y4))
  | 0 => fun _ _ _ _ _ r h => by simp [apply_To.l0] at h
  | k + 1 => by
    have ih0 := apply_To.mono_l k
    · intro y0 y1 y2 y3 y4
      unfold apply_To.l0
      repeat' first
      | (with_reducible exact ih0 _ _ _ _ _)
      | (with_reducible exact op_In.mono _ _)
      | (with_reducible exact op_May.mono _ _)
      | (with_reducible exact LeO.refl _)
      | (with_reducible exact LeO.none _)
      | (with_reducible refine LeO.ite ?_ ?_)
      | (with_reducible refine LeO.bind ?_ (fun _ => ?_))
      | exact ih0 _ _ _ _ _
      | exact op_In.mono _ _
      | exact op_May.mono _ _
      | exact LeO.none _
      | refine LeO.ite ?_ ?_
      | refine LeO.bind ?_ (fun _ => ?_)
theorem apply_To.mono : ∀ a0 a1 k, LeO (apply_To.f k a0 a1) (apply_To.f (k + 1) a0 a1) := by
  intro a0 a1 k
  have ih0 := apply_To.mono_l k
  unfold apply_To.f
  repeat' first
      | (with_reducible exact ih0 _ _ _ _ _)
      | (with_reducible exact op_In.mono _ _)
      | (with_reducible exact op_May.mono _ _)
      | (with_reducible exact LeO.refl _)
      | (with_reducible exact LeO.none _)
      | (with_reducible refine LeO.ite ?_ ?_)
      | (with_reducible refine LeO.bind ?_ (fun _ => ?_))
      | exact ih0 _ _ _ _ _
      | exact op_In.mono _ _
      | exact op_May.mono _ _
      | exact LeO.none _
      | refine LeO.ite ?_ ?_
      | refine LeO.bind ?_ (fun _ => ?_)
end Go.Proofs.YthhgobiaecehbaaDoor.F
end
section
namespace Go.Proofs.YthhgobiaecehbaaDoor.F
open Go.RowKit Go.Proofs.YthhgobiaecehbaaDoorW.PrintWords Go.Proofs.YthhgobiaecehbaaDoorW.PrintLast Go.Proofs.YthhgobiaecehbaaDoorW.PrintMore
attribute [local go_sem] max2_int min2_int max_two min_two max_three min_three max_four min_four cell_setCell_isSome
set_option linter.unusedVariables false
set_option linter.unusedSimpArgs false
open Kd
mutual
def apply_All.j0 : Nat → ByteArray → List (List (S41)) → Bool → Option (ByteArray × Int)
  | 0, _, _, _ => none
  | k + 1, x0, x1, x17 => if x17 = true then (some ((⟨#[]⟩ : ByteArray), 3)) else (apply_All.l0 k x0 x1 (x1.length : Int) 0)
def apply_All.l0 : Nat → ByteArray → List (List (S41)) → Int → Int → Option (ByteArray × Int)
  | 0, _, _, _, _ => none
  | k + 1, x0, x18, x19, x20 => if x20 < x19 then (if 0 ≤ x20 then (if x20 < (x18.length : Int) then ((apply_To.f k (rd_L3 x18 x20) x0).bind fun bt103 => (if bt103.2 = 0 then (apply_All.l0 k bt103.1 x18 x19 (wrap64 (x20 + 1))) else (some ((⟨#[]⟩ : ByteArray), bt103.2)))) else (none)) else (none)) else (some (x0, 0))
end
def apply_All.f (k : Nat) (a0 : ByteArray) (l1 : List (List (S41))) : Option (ByteArray × Int) := if (l1.length : Int) = 0 then ((points_Valid.f a0).bind fun t101 => (apply_All.j0 k a0 l1 (!t101))) else (apply_All.j0 k a0 l1 false)
theorem apply_All.mono_l : ∀ k, (∀ y0 y1 y2, LeO (apply_All.j0 k y0 y1 y2) (apply_All.j0 (k + 1) y0 y1 y2)) ∧ (∀ y0 y1 y2 y3, LeO (apply_All.l0 k y0 y1 y2 y3) (apply_All.l0 (k + 1) y0 y1 y2 y3))
  | 0 => ⟨fun _ _ _ r h => by simp [apply_All.j0] at h, fun _ _ _ _ r h => by simp [apply_All.l0] at h⟩
  | k + 1 => by
    obtain ⟨ih0, ih1⟩ := apply_All.mono_l k
    refine ⟨?_, ?_⟩
    · intro y0 y1 y2
      unfold apply_All.j0
      repeat' first
      | (with_reducible exact ih0 _ _ _)
      | (with_reducible exact ih1 _ _ _ _)
      | (with_reducible exact apply_To.mono _ _ _)
      | (with_reducible exact LeO.refl _)
      | (with_reducible exact LeO.none _)
      | (with_reducible refine LeO.ite ?_ ?_)
      | (with_reducible refine LeO.bind ?_ (fun _ => ?_))
      | exact ih0 _ _ _
      | exact ih1 _ _ _ _
      | exact apply_To.mono _ _ _
      | exact LeO.none _
      | refine LeO.ite ?_ ?_
      | refine LeO.bind ?_ (fun _ => ?_)
    · intro y0 y1 y2 y3
      unfold apply_All.l0
      repeat' first
      | (with_reducible exact ih0 _ _ _)
      | (with_reducible exact ih1 _ _ _ _)
      | (with_reducible exact apply_To.mono _ _ _)
      | (with_reducible exact LeO.refl _)
      | (with_reducible exact LeO.none _)
      | (with_reducible refine LeO.ite ?_ ?_)
      | (with_reducible refine LeO.bind ?_ (fun _ => ?_))
      | exact ih0 _ _ _
      | exact ih1 _ _ _ _
      | exact apply_To.mono _ _ _
      | exact LeO.none _
      | refine LeO.ite ?_ ?_
      | refine LeO.bind ?_ (fun _ => ?_)
theorem apply_All.mono : ∀ a0 a1 k, LeO (apply_All.f k a0 a1) (apply_All.f (k + 1) a0 a1) := by
  intro a0 a1 k
  obtain ⟨ih0, ih1⟩ := apply_All.mono_l k
  unfold apply_All.f
  repeat' first
      | (with_reducible exact ih0 _ _ _)
      | (with_reducible exact ih1 _ _ _ _)
      | (with_reducible exact apply_To.mono _ _ _)
      | (with_reducible exact LeO.refl _)
      | (with_reducible exact LeO.none _)
      | (with_reducible refine LeO.ite ?_ ?_)
      | (with_reducible refine LeO.bind ?_ (fun _ => ?_))
      | exact ih0 _ _ _
      | exact ih1 _ _ _ _
      | exact apply_To.mono _ _ _
      | exact LeO.none _
      | refine LeO.ite ?_ ?_
      | refine LeO.bind ?_ (fun _ => ?_)
end Go.Proofs.YthhgobiaecehbaaDoor.F
end
section
namespace Go.Proofs.YthhgobiaecehbaaDoor.F
open Go.RowKit Go.Proofs.YthhgobiaecehbaaDoorW.PrintWords Go.Proofs.YthhgobiaecehbaaDoorW.PrintLast Go.Proofs.YthhgobiaecehbaaDoorW.PrintMore
set_option linter.unusedVariables false
set_option linter.unusedSimpArgs false
structure LessP (gl : Nat) (w : World) (A : Option Addr) (c : Nat) (l : List S41) (w' : World) : Prop where
  b : Below gl w w'
  z : w'.heap.size = w.heap.size
  o : ∀ k, k ≠ gl → w'.heap[k]? = w.heap[k]?
  r : RowAt w' A gl l
  lc : l.length ≤ c
  lm : c ≤ 9223372036854775807
structure OvS (w0 W : World) (gL glx gly cx cy : Nat) (A B : Option Addr) (x y out : List S41) (v : Value) : Prop where
 b : Below w0.heap.size w0 W
 rx : RowAt W A glx x
 ry : RowAt W B gly y
 hx : 0 < x.length → w0.heap.size ≤ glx
 hy : 0 < y.length → w0.heap.size ≤ gly
 xc : x.length ≤ cx
 xm : cx ≤ 9223372036854775807
 yc : y.length ≤ cy
 ym : cy ≤ 9223372036854775807
 n : 0 < x.length → 0 < y.length → glx ≠ gly
 c : W.heap[gL]? = some (.cells #[v] 24 (0, 0))
 hL : w0.heap.size ≤ gL
 o : Kd.R k41 41 W w0.heap.size (fun _ => True) v out
 nx : 0 < x.length → some glx ≠ v.ownBlock
 ny : 0 < y.length → some gly ≠ v.ownBlock
theorem RowAt.keep {W W' : World} {A : Option Addr} {gl : Nat} {l : List S41} (h : RowAt W A gl l) (hk : 0 < l.length → W'.heap[gl]? = W.heap[gl]?) : RowAt W' A gl l := fun hp => by
 obtain ⟨o, cur, e1, e2, e3⟩ := h hp
 exact ⟨o, cur, e1, (hk hp).trans e2, e3⟩
theorem RowAt.lt {W : World} {A : Option Addr} {gl : Nat} {l : List S41} (h : RowAt W A gl l) (hp : 0 < l.length) : gl < W.heap.size := by
 obtain ⟨_, _, _, e, _⟩ := h hp
 exact blk_lt e
theorem OvS.swap {w0 W : World} {gL glx gly cx cy : Nat} {A B : Option Addr} {x y out : List S41} {v : Value} (h : OvS w0 W gL glx gly cx cy A B x y out v) : OvS w0 W gL gly glx cy cx B A y x out v :=
 ⟨h.b, h.ry, h.rx, h.hy, h.hx, h.yc, h.ym, h.xc, h.xm, fun a b e => h.n b a e.symm, h.c, h.hL, h.o, h.ny, h.nx⟩
theorem OvS.below {w0 W W' : World} {gL glx gly cx cy : Nat} {A B : Option Addr} {x y out : List S41} {v : Value} (h : OvS w0 W gL glx gly cx cy A B x y out v) (hb : Below W.heap.size W W') : OvS w0 W' gL glx gly cx cy A B x y out v :=
 ⟨below_step h.b hb, h.rx.keep (fun hp => hb.block _ (h.rx.lt hp)), h.ry.keep (fun hp => hb.block _ (h.ry.lt hp)), h.hx, h.hy, h.xc, h.xm, h.yc, h.ym, h.n, blk_below h.c hb, h.hL, Kd.R_below h.o hb, h.nx, h.ny⟩
theorem OvS.far {w0 W : World} {gL glx gly cx cy : Nat} {A B : Option Addr} {x y out : List S41} {v : Value} (h : OvS w0 W gL glx gly cx cy A B x y out v) (hp : 0 < x.length) : glx ≠ gL := by
 obtain ⟨_, _, _, e, _⟩ := h.rx hp
 exact blk_ne e h.c (by decide)
theorem OvS.less {w0 W W' : World} {gL glx gly cx cy cx' : Nat} {A B A' : Option Addr} {x x' y out : List S41} {v : Value} (h : OvS w0 W gL glx gly cx cy A B x y out v) (hp : 0 < x.length) (hl : LessP glx W A' cx' x' W') : OvS w0 W' gL glx gly cx' cy A' B x' y out v :=
 ⟨h.b.trans (hl.b.mono (h.hx hp)), hl.r, h.ry.keep (fun hq => hl.o _ (fun e => h.n hp hq e.symm)), fun _ => h.hx hp, h.hy, hl.lc, hl.lm, h.yc, h.ym, fun _ hq => h.n hp hq, (hl.o _ (fun e => h.far hp e.symm)).trans h.c, h.hL, R_any (Kd.R_step (R_own_only h.o) (fun k hk _ => hl.o k (fun e => by subst e; exact h.nx hp hk))), fun _ => h.nx hp, h.ny⟩
theorem OvS.tail {w0 W : World} {gL glx gly cx cy : Nat} {A B A' : Option Addr} {s : S41} {x y out : List S41} {v : Value} (h : OvS w0 W gL glx gly cx cy A B (s :: x) y out v) (e : (if cx = 1 then A else A.map (·.add (1 * 3))) = A') : OvS w0 W gL glx gly (cx - 1) cy A' B x y out v :=
 ⟨h.b, by rw [← e]; exact row_tail h.rx h.xc, h.ry, fun _ => h.hx (by simp), h.hy, by have := h.xc; rw [List.length_cons] at this; omega, by have := h.xm; omega, h.yc, h.ym, fun _ hq => h.n (by simp) hq, h.c, h.hL, h.o, fun _ => h.nx (by simp), h.ny⟩
theorem OvS.append {w0 W w1 : World} {gL glx gly cx cy : Nat} {A B : Option Addr} {x y out out' : List S41} {v v1 : Value} (h : OvS w0 W gL glx gly cx cy A B x y out v) (ho : Kd.R k41 41 w1 w0.heap.size (fun _ => True) v1 out') (hb : Below w0.heap.size w0 w1) (hg : W.grownBy w1 v.ownBlock) (hat : v1.ownBlock = v.ownBlock ∨ ∃ b, v1.ownBlock = some b ∧ W.heap.size ≤ b) :
  OvS w0 (w1.setCell ⟨gL, 0, none⟩ v1) gL glx gly cx cy A B x y out' v1 := by
 have away : ∀ k, k < W.heap.size → some k ≠ v.ownBlock → some k ≠ v1.ownBlock := by
  intro k hk hn e;rcases hat with e1 | ⟨b, e1, hb⟩
  ·exact hn (e.trans e1)
  ·rw [e1] at e
   injection e with e
   omega
 have hc1 : w1.heap[gL]? = some (.cells #[v] 24 (0, 0)) := (hg.block gL (blk_lt h.c) (Kd.R_ne h.o h.c (by decide))).trans h.c
 have keep : ∀ k, k < W.heap.size → k ≠ gL → some k ≠ v.ownBlock → (w1.setCell ⟨gL, 0, none⟩ v1).heap[k]? = W.heap[k]? := fun k hk h1 h2 => (Below.heap_setCell w1 ⟨gL, 0, none⟩ v1 k h1).trans (hg.block k hk h2)
 exact ⟨hb.setCell (p := ⟨gL, 0, none⟩) h.hL _, h.rx.keep (fun hp => keep _ (h.rx.lt hp) (h.far hp) (h.nx hp)), h.ry.keep (fun hp => keep _ (h.ry.lt hp) (h.swap.far hp) (h.ny hp)), h.hx, h.hy, h.xc, h.xm, h.yc, h.ym, h.n, blk_put hc1 0 _ rfl, h.hL, Kd.R_set ho hc1 (by decide) 0 _, fun hp => away _ (h.rx.lt hp) (h.nx hp), fun hp => away _ (h.ry.lt hp) (h.ny hp)⟩
end Go.Proofs.YthhgobiaecehbaaDoor.F
end
section
namespace Go.Proofs.YthhgobiaecehbaaDoor.F
open Go.RowKit Go.Proofs.YthhgobiaecehbaaDoorW.PrintWords Go.Proofs.YthhgobiaecehbaaDoorW.PrintLast Go.Proofs.YthhgobiaecehbaaDoorW.PrintMore
attribute [local go_sem] max2_int min2_int max_two min_two max_three min_three max_four min_four cell_setCell_isSome
set_option linter.unusedVariables false
set_option linter.unusedSimpArgs false
open Kd
def epitomelaw10_put.l0 : Nat → List (S41) → Int → Int → Option (Int)
  | 0, _, _, _ => none
  | k + 1, x0, x3, x4 => if x4 < (x0.length : Int) then (if 0 ≤ x4 then (if ((rd_T41 x0 x4).f0) = 2 then ((points_Count.f ((rd_T41 x0 x4).f2)).bind fun t103 => (epitomelaw10_put.l0 k x0 (wrap64 (x3 + t103)) (wrap64 (x4 + 1)))) else (epitomelaw10_put.l0 k x0 x3 (wrap64 (x4 + 1)))) else (none)) else (some x3)
def epitomelaw10_put.f (k : Nat) (l0 : List (S41)) : Option (Int) := epitomelaw10_put.l0 k l0 0 0
theorem epitomelaw10_put.mono_l : ∀ k, (∀ y0 y1 y2, LeO (epitomelaw10_put.l0 k y0 y1 y2) (epitomelaw10_put.l0 (k + 1) y0 y1 y2))
  | 0 => fun _ _ _ r h => by simp [epitomelaw10_put.l0] at h
  | k + 1 => by
    have ih0 := epitomelaw10_put.mono_l k
    · intro y0 y1 y2
      unfold epitomelaw10_put.l0
      repeat' first
      | (with_reducible exact ih0 _ _ _)
      | (with_reducible exact LeO.refl _)
      | (with_reducible exact LeO.none _)
      | (with_reducible refine LeO.ite ?_ ?_)
      | (with_reducible refine LeO.bind ?_ (fun _ => ?_))
      | exact ih0 _ _ _
      | exact LeO.none _
      | refine LeO.ite ?_ ?_
      | refine LeO.bind ?_ (fun _ => ?_)
theorem epitomelaw10_put.mono : ∀ a0 k, LeO (epitomelaw10_put.f k a0) (epitomelaw10_put.f (k + 1) a0) := by
  intro a0 k
  have ih0 := epitomelaw10_put.mono_l k
  unfold epitomelaw10_put.f
  repeat' first
      | (with_reducible exact ih0 _ _ _)
      | (with_reducible exact LeO.refl _)
      | (with_reducible exact LeO.none _)
      | (with_reducible refine LeO.ite ?_ ?_)
      | (with_reducible refine LeO.bind ?_ (fun _ => ?_))
      | exact ih0 _ _ _
      | exact LeO.none _
      | refine LeO.ite ?_ ?_
      | refine LeO.bind ?_ (fun _ => ?_)
end Go.Proofs.YthhgobiaecehbaaDoor.F
end
section
namespace Go.Proofs.YthhgobiaecehbaaDoor.F
open Go.RowKit Go.Proofs.YthhgobiaecehbaaDoorW.PrintWords Go.Proofs.YthhgobiaecehbaaDoorW.PrintLast Go.Proofs.YthhgobiaecehbaaDoorW.PrintMore
attribute [local go_sem] max2_int min2_int max_two min_two max_three min_three max_four min_four cell_setCell_isSome
set_option linter.unusedVariables false
set_option linter.unusedSimpArgs false
open Kd
def normal_Is.l0 : Nat → List (S41) → List (S41) → Int → Int → Option (Bool)
  | 0, _, _, _, _ => none
  | k + 1, x0, x5, x6, x7 => if x7 < x6 then (if 0 ≤ x7 then (if x7 < (x5.length : Int) then ((normal_empty.f ((rd_T41 x5 x7).f0) ((rd_T41 x5 x7).f1) ((rd_T41 x5 x7).f2)).bind fun t103 => (if t103 = true then (some false) else (if x7 > 0 then (if 0 ≤ (wrap64 (x7 - 1)) then (if (wrap64 (x7 - 1)) < (x0.length : Int) then (if ((rd_T41 x5 x7).f0) = ((rd_T41 x0 (wrap64 (x7 - 1))).f0) then (some false) else (normal_Is.l0 k x0 x5 x6 (wrap64 (x7 + 1)))) else (none)) else (none)) else (normal_Is.l0 k x0 x5 x6 (wrap64 (x7 + 1)))))) else (none)) else (none)) else (some true)
def normal_Is.f (k : Nat) (l0 : List (S41)) : Option (Bool) := normal_Is.l0 k l0 l0 (l0.length : Int) 0
theorem normal_Is.mono_l : ∀ k, (∀ y0 y1 y2 y3, LeO (normal_Is.l0 k y0 y1 y2 y3) (normal_Is.l0 (k + 1) y0 y1 y2 y3))
  | 0 => fun _ _ _ _ r h => by simp [normal_Is.l0] at h
  | k + 1 => by
    have ih0 := normal_Is.mono_l k
    · intro y0 y1 y2 y3
      unfold normal_Is.l0
      repeat' first
      | (with_reducible exact ih0 _ _ _ _)
      | (with_reducible exact LeO.refl _)
      | (with_reducible exact LeO.none _)
      | (with_reducible refine LeO.ite ?_ ?_)
      | (with_reducible refine LeO.bind ?_ (fun _ => ?_))
      | exact ih0 _ _ _ _
      | exact LeO.none _
      | refine LeO.ite ?_ ?_
      | refine LeO.bind ?_ (fun _ => ?_)
theorem normal_Is.mono : ∀ a0 k, LeO (normal_Is.f k a0) (normal_Is.f (k + 1) a0) := by
  intro a0 k
  have ih0 := normal_Is.mono_l k
  unfold normal_Is.f
  repeat' first
      | (with_reducible exact ih0 _ _ _ _)
      | (with_reducible exact LeO.refl _)
      | (with_reducible exact LeO.none _)
      | (with_reducible refine LeO.ite ?_ ?_)
      | (with_reducible refine LeO.bind ?_ (fun _ => ?_))
      | exact ih0 _ _ _ _
      | exact LeO.none _
      | refine LeO.ite ?_ ?_
      | refine LeO.bind ?_ (fun _ => ?_)
end Go.Proofs.YthhgobiaecehbaaDoor.F
end
section
namespace Go.Proofs.YthhgobiaecehbaaDoor.F
open Go.RowKit Go.Proofs.YthhgobiaecehbaaDoorW.PrintWords Go.Proofs.YthhgobiaecehbaaDoorW.PrintLast Go.Proofs.YthhgobiaecehbaaDoorW.PrintMore
attribute [local go_sem] max2_int min2_int max_two min_two max_three min_three max_four min_four cell_setCell_isSome
set_option linter.unusedVariables false
set_option linter.unusedSimpArgs false
open Kd
def epitomelaw10_FuseDoes.l0 : Nat → Bool → List (List (S41)) → List (S41) → Int → ByteArray → Int → ByteArray → Int → Int → Int → Int → Int → Int → Option (Bool)
  | 0, _, _, _, _, _, _, _, _, _, _, _, _, _ => none
  | k + 1, x5, x8, x9, x10, x11, x12, x13, x14, x15, x16, x17, x18, x19 => if x19 < (x8.length : Int) then (if 0 ≤ x19 then ((normal_Of.f k (rd_L3 x8 x19)).bind fun t118 => ((epitomelaw10_put.f k (rd_L3 x8 x19)).bind fun t122 => (epitomelaw10_FuseDoes.l0 k x5 x8 x9 x10 x11 x12 x13 x14 x15 x16 (wrap64 (x17 + (t118.length : Int))) (wrap64 (x18 + t122)) (wrap64 (x19 + 1))))) else (none)) else (if x5 = true then (if x10 = 0 then (if x12 = 0 then (if x14 = 0 then (if x16 = 0 then (if x11.toList = x13.toList then ((points_Count.f x13).bind fun t123 => (if x15 = t123 then ((normal_Is.f k x9).bind fun t124 => (if t124 = true then ((epitomelaw10_put.f k x9).bind fun t125 => (if t125 ≤ x18 then (if (x8.length : Int) = 0 then (some true) else (some (decide ((x9.length : Int) ≤ x17)))) else (some false))) else (some false))) else (some false))) else (some false)) else (some false)) else (some false)) else (some false)) else (some false)) else (some false))
def epitomelaw10_FuseDoes.f (k : Nat) (a0 : ByteArray) (l1 : List (List (S41))) : Option (Bool) := (epitomelaw10_shown.f k).bind fun t101 => (if 0 ≤ (mn (a0.size : Int) 30) then (if (mn (a0.size : Int) 30) ≤ (a0.size : Int) then ((epitomeref01_Fit.f k (a0.extract 0 ((mn (a0.size : Int) 30) : Int).toNat)).bind fun t102 => ((points_Count.f t102).bind fun t103 => ((epitomeref04_Chain.f k l1 t103).bind fun t104 => ((fuse_Of.f k t103 t104).bind fun bt107 => ((apply_To.f k bt107.1 t102).bind fun bt111 => ((apply_All.f k t102 t104).bind fun bt113 => ((fuse_Chain.f k t103 t104).bind fun bt115 => (epitomelaw10_FuseDoes.l0 k t101 t104 bt107.1 bt107.2 bt111.1 bt111.2 bt113.1 bt113.2 bt115.1 bt115.2 0 0 0)))))))) else (none)) else (none))
theorem epitomelaw10_FuseDoes.mono_l : ∀ k, (∀ y0 y1 y2 y3 y4 y5 y6 y7 y8 y9 y10 y11 y12, LeO (epitomelaw10_FuseDoes.l0 k y0 y1 y2 y3 y4 y5 y6 y7 y8 y9 y10 y11 y12) (epitomelaw10_FuseDoes.l0 (k + 1) y0 y1 y2 y3 y4 y5 y6 y7 y8 y9 y10 y11 y12))
  | 0 => fun _ _ _ _ _ _ _ _ _ _ _ _ _ r h => by simp [epitomelaw10_FuseDoes.l0] at h
  | k + 1 => by
    have ih0 := epitomelaw10_FuseDoes.mono_l k
    · intro y0 y1 y2 y3 y4 y5 y6 y7 y8 y9 y10 y11 y12
      unfold epitomelaw10_FuseDoes.l0
      repeat' first
      | (with_reducible exact ih0 _ _ _ _ _ _ _ _ _ _ _ _ _)
      | (with_reducible exact apply_All.mono _ _ _)
      | (with_reducible exact apply_To.mono _ _ _)
      | (with_reducible exact epitomelaw10_put.mono _ _)
      | (with_reducible exact epitomelaw10_shown.mono _)
      | (with_reducible exact epitomeref01_Fit.mono _ _)
      | (with_reducible exact epitomeref04_Chain.mono _ _ _)
      | (with_reducible exact fuse_Chain.mono _ _ _)
      | (with_reducible exact fuse_Of.mono _ _ _)
      | (with_reducible exact normal_Is.mono _ _)
      | (with_reducible exact normal_Of.mono _ _)
      | (with_reducible exact LeO.refl _)
      | (with_reducible exact LeO.none _)
      | (with_reducible refine LeO.ite ?_ ?_)
      | (with_reducible refine LeO.bind ?_ (fun _ => ?_))
      | exact ih0 _ _ _ _ _ _ _ _ _ _ _ _ _
      | exact apply_All.mono _ _ _
      | exact apply_To.mono _ _ _
      | exact epitomelaw10_put.mono _ _
      | exact epitomelaw10_shown.mono _
      | exact epitomeref01_Fit.mono _ _
      | exact epitomeref04_Chain.mono _ _ _
      | exact fuse_Chain.mono _ _ _
      | exact fuse_Of.mono _ _ _
      | exact normal_Is.mono _ _
      | exact normal_Of.mono _ _
      | exact LeO.none _
      | refine LeO.ite ?_ ?_
      | refine LeO.bind ?_ (fun _ => ?_)
end Go.Proofs.YthhgobiaecehbaaDoor.F
end
