import Derived.Test.YtkefbljogjcodaaDoorKCUnderAllE
import Derived.Below
import Derived.Deep.Draws
import Derived.Deep.AppendLies
import Derived.Maps.AppendAt
import Derived.OwnWalk
import Derived.Laws.BytesArg
import Derived.Laws.MakeOwn
import Derived.Laws.OwnMore
import Derived.Deep.OwnRows
import Derived.Tactics
import Derived.Lib.ConvBytes
import Derived.Laws.Slices
import Derived.WalkKit
import Derived.KernelRfl
import Derived.RowKit3
import Derived.Deep.LoopGhost
import Derived.Deep.QuietTactic
import Derived.BigQuiet
import Derived.WideLaws
import Derived.Deep.DeepCutAuto
import Derived.Deep.CutBlock
import Derived.Deep.RegionHeld3
import Derived.Laws.Rows
import Derived.Lib.AppendStr
import Derived.ArgAppend
import Derived.Laws.IdiomCopy
import Derived.RowKit
import Derived.OrdersHeld
import Derived.Laws.BitsLemmas
import Derived.Laws.StructEq
import Derived.Test.YtkefbljogjcodaaDoorProg
import Derived.Handy
import Derived.Shelf.Unicode.DecodeSlow
import Derived.Ground.NamesProg
import Derived.Shelf.Unicode.ValidAny
import Derived.Laws.RangeString
import Derived.Laws.RangeAny
import Derived.Lib.RuneCount
import Derived.Laws.IdiomStrings
import Derived.Laws.Cover4
import Derived.Great.BuildSlice
import Derived.Defers
import Derived.Laws.EntriesVeiled
section
namespace Go.Proofs.YtkefbljogjcodaaDoor.F
open Go.RowKit Go.Proofs.YtkefbljogjcodaaDoorW.PrintWords Go.Proofs.YtkefbljogjcodaaDoorW.PrintLast Go.Proofs.YtkefbljogjcodaaDoorW.PrintMore
attribute [local go_sem] max2_int min2_int max_two min_two max_three min_three max_four min_four cell_setCell_isSome
set_option linter.unusedVariables false
set_option linter.unusedSimpArgs false
open Kd
mutual
def epitomeref12_Of.l0 : Nat → List (S26) → List (S26) → List (S26) → Option ((List (S26)) × Int)
  | 0, _, _, _ => none
  | k + 1, x7, x8, x9 => if (x7.length : Int) > 0 then (epitomeref12_Of.j1 k x7 x8 x9 true) else (epitomeref12_Of.j1 k x7 x8 x9 (decide ((x8.length : Int) > 0)))
def epitomeref12_Of.j1 : Nat → List (S26) → List (S26) → List (S26) → Bool → Option ((List (S26)) × Int)
  | 0, _, _, _, _ => none
  | k + 1, x7, x8, x9, x33 => if x33 = true then (if (x7.length : Int) > 0 then (if 0 < (x7.length : Int) then (epitomeref12_Of.j2 k x7 x8 x9 (((rd_T26 x7 0).f0) == 2)) else (none)) else (epitomeref12_Of.j2 k x7 x8 x9 false)) else ((epitomeref05_Of.f k x9).bind fun t111 => (some (t111, 0)))
def epitomeref12_Of.j2 : Nat → List (S26) → List (S26) → List (S26) → Bool → Option ((List (S26)) × Int)
  | 0, _, _, _, _ => none
  | k + 1, x7, x8, x9, x43 => if x43 = true then (if 0 < (x7.length : Int) then (if x9.length < 4398046511104 then (if 1 ≤ (x7.length : Int) then (epitomeref12_Of.l0 k (x7.drop (1 : Int).toNat) x8 (x9 ++ [(⟨(rd_T26 x7 0).f0, (rd_T26 x7 0).f1, (rd_T26 x7 0).f2⟩ : S26)])) else (none)) else (none)) else (none)) else (if (x8.length : Int) > 0 then (if 0 < (x8.length : Int) then (epitomeref12_Of.j3 k x7 x8 x9 (((rd_T26 x8 0).f0) == 2)) else (none)) else (epitomeref12_Of.j3 k x7 x8 x9 false))
def epitomeref12_Of.j3 : Nat → List (S26) → List (S26) → List (S26) → Bool → Option ((List (S26)) × Int)
  | 0, _, _, _, _ => none
  | k + 1, x7, x8, x9, x61 => if x61 = true then (if 0 < (x8.length : Int) then ((epitomeref03_Out.f k ((rd_T26 x8 0).f0) ((rd_T26 x8 0).f1) ((rd_T26 x8 0).f2)).bind fun t124 => (if x9.length < 4398046511104 then (if 1 ≤ (x8.length : Int) then (epitomeref12_Of.l0 k x7 (x8.drop (1 : Int).toNat) (x9 ++ [(⟨1, t124, (⟨#[]⟩ : ByteArray)⟩ : S26)])) else (none)) else (none))) else (none)) else (if 0 < (x7.length : Int) then (if 0 < (x8.length : Int) then ((epitomeref09_First.f k ((rd_T26 x7 0).f0) ((rd_T26 x7 0).f1) ((rd_T26 x7 0).f2) (mn ((rd_T26 x7 0).f1) ((rd_T26 x8 0).f1))).bind fun bt134 => ((epitomeref09_First.f k ((rd_T26 x8 0).f0) ((rd_T26 x8 0).f1) ((rd_T26 x8 0).f2) (mn ((rd_T26 x7 0).f1) ((rd_T26 x8 0).f1))).bind fun bt143 => (if bt143.1 = 1 then (if x9.length < 4398046511104 then (epitomeref12_Of.j4 k x7 x8 (x9 ++ [(⟨bt134.1, bt134.2.1, bt134.2.2.1⟩ : S26)]) bt134.2.2.2.1 bt134.2.2.2.2.1 bt134.2.2.2.2.2 bt143.2.2.2.1 bt143.2.2.2.2.1 bt143.2.2.2.2.2) else (none)) else (epitomeref12_Of.j4 k x7 x8 x9 bt134.2.2.2.1 bt134.2.2.2.2.1 bt134.2.2.2.2.2 bt143.2.2.2.1 bt143.2.2.2.2.1 bt143.2.2.2.2.2)))) else (none)) else (none))
def epitomeref12_Of.j4 : Nat → List (S26) → List (S26) → List (S26) → Int → Int → ByteArray → Int → Int → ByteArray → Option ((List (S26)) × Int)
  | 0, _, _, _, _, _, _, _, _, _ => none
  | k + 1, x7, x8, x9, x142000, x142001, x142002, x151000, x151001, x151002 => (some (([(⟨x142000, x142001, x142002⟩ : S26)] : List (S26)) : List (S26))).bind fun y154 => (if 1 ≤ (x7.length : Int) then ((some (x7.drop 1 : List (S26))).bind fun y157 => (if y154.length + y157.length < 4398046511104 then ((some (y154 ++ y157 : List (S26))).bind fun y161 => ((some (([(⟨x151000, x151001, x151002⟩ : S26)] : List (S26)) : List (S26))).bind fun y164 => (if 1 ≤ (x8.length : Int) then ((some (x8.drop 1 : List (S26))).bind fun y167 => (if y164.length + y167.length < 4398046511104 then ((some (y164 ++ y167 : List (S26))).bind fun y171 => (if x142001 = 0 then (if 1 ≤ (y161.length : Int) then ((some (y161.drop (1 : Int).toNat : List (S26))).bind fun y174 => (if x151001 = 0 then (if 1 ≤ (y171.length : Int) then (epitomeref12_Of.l0 k y174 (y171.drop (1 : Int).toNat) x9) else (none)) else (epitomeref12_Of.l0 k y174 y171 x9))) else (none)) else (if x151001 = 0 then (if 1 ≤ (y171.length : Int) then (epitomeref12_Of.l0 k y161 (y171.drop (1 : Int).toNat) x9) else (none)) else (epitomeref12_Of.l0 k y161 y171 x9)))) else (none))) else (none)))) else (none))) else (none))
end
def epitomeref12_Of.f (k : Nat) (l0 : List (S26)) (l1 : List (S26)) : Option ((List (S26)) × Int) := (epitomeref11_Both.f k l0 l1).bind fun t101 => (if t101 = 0 then ((epitomeref05_Of.f k l0).bind fun t102 => ((epitomeref05_Of.f k l1).bind fun t105 => (epitomeref12_Of.l0 k t102 t105 (([] : List (S26)))))) else (some (([] : List (S26)), t101)))
theorem epitomeref12_Of.mono_l : ∀ k, (∀ y0 y1 y2, LeO (epitomeref12_Of.l0 k y0 y1 y2) (epitomeref12_Of.l0 (k + 1) y0 y1 y2)) ∧ (∀ y0 y1 y2 y3, LeO (epitomeref12_Of.j1 k y0 y1 y2 y3) (epitomeref12_Of.j1 (k + 1) y0 y1 y2 y3)) ∧ (∀ y0 y1 y2 y3, LeO (epitomeref12_Of.j2 k y0 y1 y2 y3) (epitomeref12_Of.j2 (k + 1) y0 y1 y2 y3)) ∧ (∀ y0 y1 y2 y3, LeO (epitomeref12_Of.j3 k y0 y1 y2 y3) (epitomeref12_Of.j3 (k + 1) y0 y1 y2 y3)) ∧ (∀ y0 y1 y2 y3 y4 y5 y6 y7 y8, LeO (epitomeref12_Of.j4 k y0 y1 y2 y3 y4 y5 y6 y7 y8) (epitomeref12_Of.j4 (k + 1) y0 y1 y2 y3 y4 y5 y6 y7 y8))
  | 0 => ⟨fun _ _ _ r h => by simp [epitomeref12_Of.l0] at h, fun _ _ _ _ r h => by simp [epitomeref12_Of.j1] at h, fun _ _ _ _ r h => by simp [epitomeref12_Of.j2] at h, fun _ _ _ _ r h => by simp [epitomeref12_Of.j3] at h, fun _ _ _ _ _ _ _ _ _ r h => by simp [epitomeref12_Of.j4] at h⟩
  | k + 1 => by
    obtain ⟨ih0, ih1, ih2, ih3, ih4⟩ := epitomeref12_Of.mono_l k
    refine ⟨?_, ?_, ?_, ?_, ?_⟩
    · intro y0 y1 y2
      unfold epitomeref12_Of.l0
      repeat' first
      | (with_reducible exact ih0 _ _ _)
      | (with_reducible exact ih1 _ _ _ _)
      | (with_reducible exact ih2 _ _ _ _)
      | (with_reducible exact ih3 _ _ _ _)
      | (with_reducible exact ih4 _ _ _ _ _ _ _ _ _)
      | (with_reducible exact epitomeref03_Out.mono _ _ _ _)
      | (with_reducible exact epitomeref05_Of.mono _ _)
      | (with_reducible exact epitomeref09_First.mono _ _ _ _ _)
      | (with_reducible exact epitomeref11_Both.mono _ _ _)
      | (with_reducible exact LeO.refl _)
      | (with_reducible exact LeO.none _)
      | (with_reducible refine LeO.ite ?_ ?_)
      | (with_reducible refine LeO.bind ?_ (fun _ => ?_))
      | exact ih0 _ _ _
      | exact ih1 _ _ _ _
      | exact ih2 _ _ _ _
      | exact ih3 _ _ _ _
      | exact ih4 _ _ _ _ _ _ _ _ _
      | exact epitomeref03_Out.mono _ _ _ _
      | exact epitomeref05_Of.mono _ _
      | exact epitomeref09_First.mono _ _ _ _ _
      | exact epitomeref11_Both.mono _ _ _
      | exact LeO.none _
      | refine LeO.ite ?_ ?_
      | refine LeO.bind ?_ (fun _ => ?_)
    · intro y0 y1 y2 y3
      unfold epitomeref12_Of.j1
      repeat' first
      | (with_reducible exact ih0 _ _ _)
      | (with_reducible exact ih1 _ _ _ _)
      | (with_reducible exact ih2 _ _ _ _)
      | (with_reducible exact ih3 _ _ _ _)
      | (with_reducible exact ih4 _ _ _ _ _ _ _ _ _)
      | (with_reducible exact epitomeref03_Out.mono _ _ _ _)
      | (with_reducible exact epitomeref05_Of.mono _ _)
      | (with_reducible exact epitomeref09_First.mono _ _ _ _ _)
      | (with_reducible exact epitomeref11_Both.mono _ _ _)
      | (with_reducible exact LeO.refl _)
      | (with_reducible exact LeO.none _)
      | (with_reducible refine LeO.ite ?_ ?_)
      | (with_reducible refine LeO.bind ?_ (fun _ => ?_))
      | exact ih0 _ _ _
      | exact ih1 _ _ _ _
      | exact ih2 _ _ _ _
      | exact ih3 _ _ _ _
      | exact ih4 _ _ _ _ _ _ _ _ _
      | exact epitomeref03_Out.mono _ _ _ _
      | exact epitomeref05_Of.mono _ _
      | exact epitomeref09_First.mono _ _ _ _ _
      | exact epitomeref11_Both.mono _ _ _
      | exact LeO.none _
      | refine LeO.ite ?_ ?_
      | refine LeO.bind ?_ (fun _ => ?_)
    · intro y0 y1 y2 y3
      unfold epitomeref12_Of.j2
      repeat' first
      | (with_reducible exact ih0 _ _ _)
      | (with_reducible exact ih1 _ _ _ _)
      | (with_reducible exact ih2 _ _ _ _)
      | (with_reducible exact ih3 _ _ _ _)
      | (with_reducible exact ih4 _ _ _ _ _ _ _ _ _)
      | (with_reducible exact epitomeref03_Out.mono _ _ _ _)
      | (with_reducible exact epitomeref05_Of.mono _ _)
      | (with_reducible exact epitomeref09_First.mono _ _ _ _ _)
      | (with_reducible exact epitomeref11_Both.mono _ _ _)
      | (with_reducible exact LeO.refl _)
      | (with_reducible exact LeO.none _)
      | (with_reducible refine LeO.ite ?_ ?_)
      | (with_reducible refine LeO.bind ?_ (fun _ => ?_))
      | exact ih0 _ _ _
      | exact ih1 _ _ _ _
      | exact ih2 _ _ _ _
      | exact ih3 _ _ _ _
      | exact ih4 _ _ _ _ _ _ _ _ _
      | exact epitomeref03_Out.mono _ _ _ _
      | exact epitomeref05_Of.mono _ _
      | exact epitomeref09_First.mono _ _ _ _ _
      | exact epitomeref11_Both.mono _ _ _
      | exact LeO.none _
      | refine LeO.ite ?_ ?_
      | refine LeO.bind ?_ (fun _ => ?_)
    · intro y0 y1 y2 y3
      unfold epitomeref12_Of.j3
      repeat' first
      | (with_reducible exact ih0 _ _ _)
      | (with_reducible exact ih1 _ _ _ _)
      | (with_reducible exact ih2 _ _ _ _)
      | (with_reducible exact ih3 _ _ _ _)
      | (with_reducible exact ih4 _ _ _ _ _ _ _ _ _)
      | (with_reducible exact epitomeref03_Out.mono _ _ _ _)
      | (with_reducible exact epitomeref05_Of.mono _ _)
      | (with_reducible exact epitomeref09_First.mono _ _ _ _ _)
      | (with_reducible exact epitomeref11_Both.mono _ _ _)
      | (with_reducible exact LeO.refl _)
      | (with_reducible exact LeO.none _)
      | (with_reducible refine LeO.ite ?_ ?_)
      | (with_reducible refine LeO.bind ?_ (fun _ => ?_))
      | exact ih0 _ _ _
      | exact ih1 _ _ _ _
      | exact ih2 _ _ _ _
      | exact ih3 _ _ _ _
      | exact ih4 _ _ _ _ _ _ _ _ _
      | exact epitomeref03_Out.mono _ _ _ _
      | exact epitomeref05_Of.mono _ _
      | exact epitomeref09_First.mono _ _ _ _ _
      | exact epitomeref11_Both.mono _ _ _
      | exact LeO.none _
      | refine LeO.ite ?_ ?_
      | refine LeO.bind ?_ (fun _ => ?_)
    · intro y0 y1 y2 y3 y4 y5 y6 y7 y8
      unfold epitomeref12_Of.j4
      repeat' first
      | (with_reducible exact ih0 _ _ _)
      | (with_reducible exact ih1 _ _ _ _)
      | (with_reducible exact ih2 _ _ _ _)
      | (with_reducible exact ih3 _ _ _ _)
      | (with_reducible exact ih4 _ _ _ _ _ _ _ _ _)
      | (with_reducible exact epitomeref03_Out.mono _ _ _ _)
      | (with_reducible exact epitomeref05_Of.mono _ _)
      | (with_reducible exact epitomeref09_First.mono _ _ _ _ _)
      | (with_reducible exact epitomeref11_Both.mono _ _ _)
      | (with_reducible exact LeO.refl _)
      | (with_reducible exact LeO.none _)
      | (with_reducible refine LeO.ite ?_ ?_)
      | (with_reducible refine LeO.bind ?_ (fun _ => ?_))
      | exact ih0 _ _ _
      | exact ih1 _ _ _ _
      | exact ih2 _ _ _ _
      | exact ih3 _ _ _ _
      | exact ih4 _ _ _ _ _ _ _ _ _
      | exact epitomeref03_Out.mono _ _ _ _
      | exact epitomeref05_Of.mono _ _
      | exact epitomeref09_First.mono _ _ _ _ _
      | exact epitomeref11_Both.mono _ _ _
      | exact LeO.none _
      | refine LeO.ite ?_ ?_
      | refine LeO.bind ?_ (fun _ => ?_)
def epitomeref12_Of.T14 : Bool × List (List Nat × List Nat) := (true, [([], []), ([0], [0]), ([1], [1]), ([2], [2]), ([], []), ([4], [4]), ([5], [5]), ([6], [6]), ([3, 7], [3, 7]), ([8, 0, 1, 2, 3, 4, 5, 6, 7, 8], [8])])
def epitomeref12_Of.B14 : List Nat := [0, 1, 3, 7, 0, 16, 48, 112, 255, 511]
theorem epitomeref12_Of.tab14 : rtab .any (opsOf Tryd.f21 14) = epitomeref12_Of.T14 := by kernel_rfl
theorem epitomeref12_Of.bits14 : waitsOk epitomeref12_Of.T14.2 epitomeref12_Of.B14 = true := by kernel_rfl
set_option maxHeartbeats 40000000 in
set_option maxRecDepth 100000 in
theorem epitomeref12_Of.calls (k : Nat) (A0 : Option Addr) (c0 : Nat) (l0 : List (S26)) (A1 : Option Addr) (c1 : Nat) (l1 : List (S26)) (r1 : List (S26)) (r2 : Int) (w : World) (hr0 : Kd.C k26 w A0 l0.length l0) (hc0 : l0.length ≤ c0) (hr1 : Kd.C k26 w A1 l1.length l1) (hc1 : l1.length ≤ c1) (h : epitomeref12_Of.f k l0 l1 = some (r1, r2)) :
  Calls Tryd.prog 21 #[.slice A0 l0.length c0, .slice A1 l1.length c1] w fun e w' => ∃ v0_ : Value, e = .returned (.tuple #[v0_, .int .i64 r2]) ∧ Kd.R k26 26 w' w.heap.size (fun _ => True) v0_ r1 ∧ Below w.heap.size w w' := by
 have hu26 := Tryd.underlying26
 have HR0 := Am hr0;have HC0 := Am hc0;clear hr0 hc0;have HR1 := Am hr1;have HC1 := Am hc1;clear hr1 hc1;have HB := Am (Below.refl w.heap.size w)
 have H : ((epitomeref11_Both.f k l0 l1).bind fun t101 => (if t101 = 0 then ((epitomeref05_Of.f k l0).bind fun t102 => ((epitomeref05_Of.f k l1).bind fun t105 => (epitomeref12_Of.l0 k t102 t105 (([] : List (S26)))))) else (some (([] : List (S26)), t101)))) = some (r1, r2) := h
 clear h;replace H := Option.bind_eq_some_iff.mp H;obtain ⟨t101, A30, H⟩ := H;replace H : (if t101 = 0 then ((epitomeref05_Of.f k l0).bind fun t102 => ((epitomeref05_Of.f k l1).bind fun t105 => (epitomeref12_Of.l0 k t102 t105 (([] : List (S26)))))) else (some (([] : List (S26)), t101))) = some (r1, r2) := H
 have A3 := Am A30;clear A30;by_cases c4 : t101 = 0
 ·rw [if_pos c4] at H;have c4b0 : (t101 == 0) = true := beq_iff_eq.mpr c4
  have c4b1 : (t101 != 0) = false := bne_eq_false_iff_eq.mpr c4
  clear c4;replace H := Option.bind_eq_some_iff.mp H;obtain ⟨t102, A50, H⟩ := H;replace H : ((epitomeref05_Of.f k l1).bind fun t105 => (epitomeref12_Of.l0 k t102 t105 (([] : List (S26))))) = some (r1, r2) := H
  have A5 := Am A50;clear A50;replace H := Option.bind_eq_some_iff.mp H;obtain ⟨t105, A60, H⟩ := H;replace H : (epitomeref12_Of.l0 k t102 t105 (([] : List (S26)))) = some (r1, r2) := H
  have A6 := Am A60;clear A60;obtain ⟨y108, hy108⟩ : ∃ y_ : List (S26), y_ = (([] : List (S26))) := ⟨_, rfl⟩
  replace H : (epitomeref12_Of.l0 k t102 t105 y108) = some (r1, r2) := by first | (rw [hy108]; with_reducible exact H) | (have H2_ := (Option.bind_some _ _).symm.trans H; rw [hy108]; with_reducible exact H2_) | (have H2_ := (Option.bind_some _ _).symm.trans H; with_reducible exact H2_) | with_reducible exact H | (rw [hy108]; exact H) | exact H
  have Ny108 := Am hy108;clear hy108;have H' := Am H
  clear H;go_enter Tryd.func21, Tryd.ntmps21
  go_wp2_with (first | ((with_reducible refine gate_callee (f := 58) rfl ?_); refine goesL_ (some 17) rfl rfl Tryd.func58 (by kernel_rfl) rfl #[.slice A0 l0.length c0, .slice A1 l1.length c1] rfl zE ?_; (with_reducible refine (epitomeref11_Both.calls k _ _ l0 _ _ l1 t101 _ ?side1 ?side2 ?side3 ?side4 A3.out).mono ?_); (case side1 => exact zI HR0.out); (case side2 => exact HC0.out); (case side3 => exact zI HR1.out); (case side4 => exact HC1.out); rintro e w7 ⟨rfl, hb⟩; refine ⟨_, rfl, ?_⟩; replace HB := Am (below_step (zB HB) hb); (try clear hb)) | ((with_reducible refine gate_callee (f := 59) rfl ?_); refine goesL_ (some 22) rfl rfl Tryd.func59 (by kernel_rfl) rfl #[.slice A0 l0.length c0] rfl zE ?_; (with_reducible refine (epitomeref05_Of.calls k _ _ l0 t102 _ ?side1 ?side2 A5.out).mono ?_); (case side1 => exact zI (C_below HR0.out HB.out)); (case side2 => exact HC0.out); rintro e w8 ⟨v103, rfl, ho0, hb⟩; refine ⟨_, rfl, ?_⟩; have HO104 := Am (R_lower ho0 (below_size (zB HB)));replace HB := Am (below_step (zB HB) hb); (try clear hb); (try clear ho0); (try clear A5)) | ((with_reducible refine gate_callee (f := 59) rfl ?_); refine goesL_ (some 24) rfl rfl Tryd.func59 (by kernel_rfl) rfl #[.slice A1 l1.length c1] rfl zE ?_; (with_reducible refine (epitomeref05_Of.calls k _ _ l1 t105 _ ?side1 ?side2 A6.out).mono ?_); (case side1 => exact zI (C_below HR1.out HB.out)); (case side2 => exact HC1.out); rintro e w9 ⟨v106, rfl, ho0, hb⟩; refine ⟨_, rfl, ?_⟩; have HO107 := Am (R_lower (zn ho0 HO104) (below_size (zB HB)));replace HO104 := Am (zr HO104 ho0 hb);replace HB := Am (below_step (zB HB) hb); (try clear hb); (try clear ho0); (try clear A6)) | ((with_reducible refine gate_dst (N := 25) rfl ?_); (try (refine gate_guard (by rfl) ?_; dsimp only)); refine R_lit k26 _ 26 ?hg (N := 25) ?hd (xs := ([] : List (S26))) (inner := []) (ok := fun _ => True) (okp := fun _ => True) ?hr ?hp (fun _ hk => hk) trivial (Below.refl _ _) (Nat.le_refl _) (by simp) ?_; (case hd => rfl); (case hg => rfl); (case hr => first | (go_simp; done) | (go_simp; rfl)); (case hp => exact (Reps.none _ _)); intro v109 w10 ho11 hb hg_ hnew_; clear hg_ hnew_; (first | rw [← Ny108.out] at ho11 | (simp only [Int.reduceToNat] at ho11; rw [← Ny108.out] at ho11)); have HO110 := Am (R_lower (zn (zn ho11 HO104) HO107) (below_size (zB HB)));replace HO104 := Am (zr HO104 ho11 hb);replace HO107 := Am (zr HO107 ho11 hb);replace HB := Am (below_step (zB HB) hb); clear hb ho11))
  go_loopg [7, 8, 9] k (fun kq v7 v8 v9 w' => ∃ (x7_1 : List (S26)) (x8_1 : List (S26)) (x9_1 : List (S26)), Aside0 (epitomeref12_Of.l0 kq x7_1 x8_1 x9_1 = some (r1, r2)) ∧ Aside0 (kq ≤ k) ∧ Aside0 (Kd.Q k26 26 w' w.heap.size (fun k_ => some k_ ≠ (v8 : Value).ownBlock ∧ some k_ ≠ (v9 : Value).ownBlock) v7 x7_1) ∧ Aside0 (Kd.Q k26 26 w' w.heap.size (fun k_ => some k_ ≠ (v7 : Value).ownBlock ∧ some k_ ≠ (v9 : Value).ownBlock) v8 x8_1) ∧ Aside0 (Kd.R k26 26 w' w.heap.size (fun k_ => some k_ ≠ (v7 : Value).ownBlock ∧ some k_ ≠ (v8 : Value).ownBlock) v9 x9_1) ∧ Aside0 (Below w.heap.size w w'))
  case atStart => exact ⟨(t102), (t105), (y108), H', ⟨Nat.le_refl _⟩, ⟨Kd.Q_of_R (by (with_reducible repeat (first | apply zA.a | apply zA.n | apply zA.d)); exact R_mono HO104.out (fun _ hk => ⟨hk.1.2, hk.2⟩))⟩, ⟨Kd.Q_of_R (by (with_reducible repeat (first | apply zA.a | apply zA.n | apply zA.d)); exact R_mono HO107.out (fun _ hk => ⟨hk.1.2, hk.2⟩))⟩, ⟨by (with_reducible repeat (first | apply zA.a | apply zA.n | apply zA.d)); exact R_mono HO110.out (fun _ hk => ⟨hk.1.2, hk.2⟩)⟩, ⟨(zB HB)⟩⟩
  case round =>
   clear H';(try clear c1);(try clear c2);(try clear p2);(try clear c4);(try clear c4b0);(try clear c4b1);(try clear c5);obtain ⟨x7_1, x8_1, x9_1, HA, HK1, HO_7, HO_8, HO_9, HB⟩ := hrel
   cases gk with
   | zero => exact absurd HA.out (by simp [epitomeref12_Of.l0])
   | succ k1 =>
    have H := HA.out;clear HA;simp only [epitomeref12_Of.l0] at H
    have HC12 := Am H;clear H;go_upto_region 7 with (fail)
    go_cut [33] (fun v33 wc => ∃ (kq : Nat) (x33_11 : Bool), v33 = .bool x33_11 ∧ Aside0 (epitomeref12_Of.j1 kq x7_1 x8_1 x9_1 x33_11 = some (r1, r2)) ∧ Aside0 (kq ≤ k1) ∧ Aside0 (Kd.Q k26 26 wc w.heap.size (fun k_ => some k_ ≠ (u8 : Value).ownBlock ∧ some k_ ≠ (u9 : Value).ownBlock) u7 x7_1) ∧ Aside0 (Kd.Q k26 26 wc w.heap.size (fun k_ => some k_ ≠ (u7 : Value).ownBlock ∧ some k_ ≠ (u9 : Value).ownBlock) u8 x8_1) ∧ Aside0 (Kd.R k26 26 wc w.heap.size (fun k_ => some k_ ≠ (u7 : Value).ownBlock ∧ some k_ ≠ (u8 : Value).ownBlock) u9 x9_1) ∧ Aside0 (Below w.heap.size w wc))
    case first =>
     have H := HC12.out;clear HC12;by_cases c13 : (x7_1.length : Int) > 0
     ·rw [if_pos c13] at H;have c13b0 : decide (0 < (x7_1.length : Int)) = true := decide_eq_true c13
      have c13b1 : decide (0 < x7_1.length) = true := decide_eq_true (by omega)
      clear c13;(first | rw [c13b0] | (simp only [i64_w, i32_w]; rw [c13b0]) | skip)
      have H' := Am H
      clear H;obtain ⟨Ao14, co14, eo14, _⟩ := Kd.Q_slice HO_7.out
      subst eo14
      go_wp2
      go_meet
      case rel => exact ⟨_, (true), zG, H', ⟨by have := HK1.out; first | omega | exact Nat.le_refl _⟩, ⟨(zQ HO_7)⟩, ⟨(zQ HO_8)⟩, ⟨(zR HO_9)⟩, ⟨(zB HB)⟩⟩
     ·rw [if_neg c13] at H;have c13b0 : decide (0 < (x7_1.length : Int)) = false := decide_eq_false c13
      have c13b1 : decide (0 < x7_1.length) = false := decide_eq_false (by omega)
      clear c13;(first | rw [c13b0] | (simp only [i64_w, i32_w]; rw [c13b0]) | skip)
      have H' := Am H
      clear H;obtain ⟨Ao15, co15, eo15, _⟩ := Kd.Q_slice HO_7.out
      subst eo15
      obtain ⟨Ao16, co16, eo16, _⟩ := Kd.Q_slice HO_8.out
      subst eo16
      go_wp2
      go_meet
      case rel => exact ⟨_, (decide ((x8_1.length : Int) > 0)), zG, H', ⟨by have := HK1.out; first | omega | exact Nat.le_refl _⟩, ⟨(zQ HO_7)⟩, ⟨(zQ HO_8)⟩, ⟨(zR HO_9)⟩, ⟨(zB HB)⟩⟩
    case rest =>
     clear HC12;(try clear c1);(try clear c2);(try clear p2);(try clear c4);(try clear c4b0);(try clear c4b1);(try clear c5);(try clear c13);(try clear c13b0);(try clear c13b1);(try clear p2);obtain ⟨kq, x33_11, rfl, HA, HJ11, HO_7, HO_8, HO_9, HB⟩ := hcut
     cases kq with
     | zero => exact absurd HA.out (by simp [epitomeref12_Of.j1])
     | succ kj11 =>
      have H := HA.out;clear HA;simp only [epitomeref12_Of.j1] at H
      by_cases c17 : x33_11 = true
      ·subst c17
       have H1 : (if (x7_1.length : Int) > 0 then (if 0 < (x7_1.length : Int) then (epitomeref12_Of.j2 kj11 x7_1 x8_1 x9_1 (((rd_T26 x7_1 0).f0) == 2)) else (none)) else (epitomeref12_Of.j2 kj11 x7_1 x8_1 x9_1 false)) = some (r1, r2) := by rw [if_pos rfl] at H; exact H
       clear H;have H := H1
       clear H1;have HC18 := Am H;clear H;go_upto_region 8 with (fail)
       go_cut [43] (fun v43 wc => ∃ (kq : Nat) (x43_17 : Bool), v43 = .bool x43_17 ∧ Aside0 (epitomeref12_Of.j2 kq x7_1 x8_1 x9_1 x43_17 = some (r1, r2)) ∧ Aside0 (kq ≤ kj11) ∧ Aside0 (Kd.Q k26 26 wc w.heap.size (fun k_ => some k_ ≠ (u8 : Value).ownBlock ∧ some k_ ≠ (u9 : Value).ownBlock) u7 x7_1) ∧ Aside0 (Kd.Q k26 26 wc w.heap.size (fun k_ => some k_ ≠ (u7 : Value).ownBlock ∧ some k_ ≠ (u9 : Value).ownBlock) u8 x8_1) ∧ Aside0 (Kd.R k26 26 wc w.heap.size (fun k_ => some k_ ≠ (u7 : Value).ownBlock ∧ some k_ ≠ (u8 : Value).ownBlock) u9 x9_1) ∧ Aside0 (Below w.heap.size w wc))
       case first =>
        have H := HC18.out;clear HC18;by_cases c19 : (x7_1.length : Int) > 0
        ·rw [if_pos c19] at H;have c19b0 : decide (0 < (x7_1.length : Int)) = true := decide_eq_true c19
         have c19b1 : decide (0 < x7_1.length) = true := decide_eq_true (by omega)
         clear c19;(first | rw [c19b0] | (simp only [i64_w, i32_w]; rw [c19b0]) | skip)
         by_cases c20 : 0 < (x7_1.length : Int)
         ·rw [if_pos c20] at H;have c20b0 : decide (0 < (x7_1.length : Int)) = true := decide_eq_true c20
          have c20b1 : decide (0 < x7_1.length) = true := decide_eq_true (by omega)
          clear c20;have H' := Am H
          clear H;obtain ⟨Ao21, co21, eo21, _⟩ := Kd.Q_slice HO_7.out
          subst eo21
          have p114 : 0 ≤ (0 : Int) := (by omega)
          have q114 : 0 < (x7_1.length : Int) := of_decide_eq_true (by assumption)
          obtain ⟨ad114, e114, hx114_0, hx114_1, hx114_2⟩ := at_T26 (Kd.Q_reads' HO_7.out).2.2 0 p114 q114
          cases e114
          have qi114 : (0 < x7_1.length) = True := eq_true (by omega)
          (try rw [zZ] at hx114_0)
          (try rw [zZ] at hx114_1)
          (try rw [zZ] at hx114_2)
          replace p114 := eq_true p114;replace q114 := eq_true q114;go_wp2
          go_meet
          case rel => exact ⟨_, ((((rd_T26 x7_1 0).f0) == 2)), zG, H', ⟨by have := HK1.out; have := HJ11.out; first | omega | exact Nat.le_refl _⟩, ⟨(zQ HO_7)⟩, ⟨(zQ HO_8)⟩, ⟨(zR HO_9)⟩, ⟨(zB HB)⟩⟩
         ·rw [if_neg c20] at H;exact absurd H (by simp)
        ·rw [if_neg c19] at H;have c19b0 : decide (0 < (x7_1.length : Int)) = false := decide_eq_false c19
         have c19b1 : decide (0 < x7_1.length) = false := decide_eq_false (by omega)
         clear c19;(first | rw [c19b0] | (simp only [i64_w, i32_w]; rw [c19b0]) | skip)
         have H' := Am H
         clear H;obtain ⟨Ao22, co22, eo22, _⟩ := Kd.Q_slice HO_7.out
         subst eo22
         go_wp2
         go_meet
         case rel => exact ⟨_, (false), zG, H', ⟨by have := HK1.out; have := HJ11.out; first | omega | exact Nat.le_refl _⟩, ⟨(zQ HO_7)⟩, ⟨(zQ HO_8)⟩, ⟨(zR HO_9)⟩, ⟨(zB HB)⟩⟩
       case rest =>
        clear HC18;(try clear c1);(try clear p1);(try clear q1);(try clear hx1);(try clear qi1);(try clear c2);(try clear p2);(try clear c4);(try clear c4b0);(try clear c4b1);(try clear c5);(try clear p11);(try clear q11);(try clear hx11);(try clear qi11);(try clear c13);(try clear c13b0);(try clear c13b1);(try clear c17);(try clear c19);(try clear c19b0);(try clear c19b1);(try clear c20);(try clear c20b0);(try clear c20b1);(try clear c21);(try clear hx114_0);(try clear hx114_1);(try clear hx114_2);(try clear p114);(try clear p2);(try clear q114);obtain ⟨kq, x43_17, rfl, HA, HJ17, HO_7, HO_8, HO_9, HB⟩ := hcut
        cases kq with
        | zero => exact absurd HA.out (by simp [epitomeref12_Of.j2])
        | succ kj17 =>
         have H := HA.out;clear HA;simp only [epitomeref12_Of.j2] at H
         by_cases c23 : x43_17 = true
         ·subst c23
          have H1 : (if 0 < (x7_1.length : Int) then (if x9_1.length < 4398046511104 then (if 1 ≤ (x7_1.length : Int) then (epitomeref12_Of.l0 kj17 (x7_1.drop (1 : Int).toNat) x8_1 (x9_1 ++ [(⟨(rd_T26 x7_1 0).f0, (rd_T26 x7_1 0).f1, (rd_T26 x7_1 0).f2⟩ : S26)])) else (none)) else (none)) else (none)) = some (r1, r2) := by rw [if_pos rfl] at H; exact H
          clear H;have H := H1
          clear H1;by_cases c24 : 0 < (x7_1.length : Int)
          ·rw [if_pos c24] at H;have c24b0 : decide (0 < (x7_1.length : Int)) = true := decide_eq_true c24
           have c24b1 : decide (0 < x7_1.length) = true := decide_eq_true (by omega)
           clear c24;by_cases c25 : x9_1.length < 4398046511104
           ·rw [if_pos c25] at H;have LMc25 := Am c25;clear c25;obtain ⟨y116, hy116⟩ : ∃ y_ : List (S26), y_ = (x9_1 ++ [(⟨(rd_T26 x7_1 0).f0, (rd_T26 x7_1 0).f1, (rd_T26 x7_1 0).f2⟩ : S26)]) := ⟨_, rfl⟩
            replace H : (if 1 ≤ (x7_1.length : Int) then (epitomeref12_Of.l0 kj17 (x7_1.drop (1 : Int).toNat) x8_1 y116) else (none)) = some (r1, r2) := by first | (rw [hy116]; with_reducible exact H) | (have H2_ := (Option.bind_some _ _).symm.trans H; rw [hy116]; with_reducible exact H2_) | (have H2_ := (Option.bind_some _ _).symm.trans H; with_reducible exact H2_) | with_reducible exact H | (rw [hy116]; exact H) | exact H
            have Ny116 := Am hy116;clear hy116;by_cases c26 : 1 ≤ (x7_1.length : Int)
            ·rw [if_pos c26] at H;have c26b0 := eq_true c26
             have c26b1 : decide (1 ≤ (x7_1.length : Int)) = true := decide_eq_true c26
             clear c26;obtain ⟨y119, hy119⟩ : ∃ y_ : List (S26), y_ = (x7_1.drop (1 : Int).toNat) := ⟨_, rfl⟩
             replace H : (epitomeref12_Of.l0 kj17 y119 x8_1 y116) = some (r1, r2) := by first | (rw [hy119]; with_reducible exact H) | (have H2_ := (Option.bind_some _ _).symm.trans H; rw [hy119]; with_reducible exact H2_) | (have H2_ := (Option.bind_some _ _).symm.trans H; with_reducible exact H2_) | with_reducible exact H | (rw [hy119]; exact H) | exact H
             have Ny119 := Am hy119;clear hy119;have H' := Am H
             clear H;obtain ⟨Ao27, co27, eo27, _⟩ := Kd.Q_slice HO_7.out
             subst eo27
             have p115 : 0 ≤ (0 : Int) := (by omega)
             have q115 : 0 < (x7_1.length : Int) := of_decide_eq_true (by assumption)
             obtain ⟨ad115, e115, hx115_0, hx115_1, hx115_2⟩ := at_T26 (Kd.Q_reads' HO_7.out).2.2 0 p115 q115
             cases e115
             have qi115 : (0 < x7_1.length) = True := eq_true (by omega)
             (try rw [zZ] at hx115_0)
             (try rw [zZ] at hx115_1)
             (try rw [zZ] at hx115_2)
             replace p115 := eq_true p115;replace q115 := eq_true q115;go_wp2_with (first | ((with_reducible refine gate_builtin (b := .append) (xs := #[.tmp 44, .tmp 48]) rfl ?_); (try (refine gate_guard (by rfl) ?_; dsimp only)); at_builtin; refine R_append k26 (w0 := w) w.heap.size rfl (.tmp 44) (.tmp 48) 27 26 (.agg #[(.int .i64 0), (.int .i64 0), (.string ⟨#[]⟩)]) 32 rfl Tryd.underlying27 info26 rfl (by decide) (by omega) u9 x9_1 (⟨(rd_T26 x7_1 0).f0, (rd_T26 x7_1 0).f1, (rd_T26 x7_1 0).f2⟩ : S26) [.int .i64 ((rd_T26 x7_1 0).f0), .int .i64 ((rd_T26 x7_1 0).f1), .string ((rd_T26 x7_1 0).f2)] (fun k_ => some k_ ≠ (.slice (some ad115) x7_1.length co27 : Value).ownBlock ∧ some k_ ≠ (u8 : Value).ownBlock) (fun _ => False) rfl rfl ?aP (fun _ hk => hk.elim) ?aF ?aO ?aB ?aS ?aL ?_; (case aP => exact k26_mkM _ _ _ (⟨(rd_T26 x7_1 0).f0, (rd_T26 x7_1 0).f1, (rd_T26 x7_1 0).f2⟩ : S26)); (case aB => exact (zB HB)); (case aF => exact (fun k_ hk => ⟨Kd.fresh' (Kd.Q_lt (zQ HO_7)) k_ hk, Kd.fresh' (Kd.Q_lt (zQ HO_8)) k_ hk⟩)); (case aO => exact (zR HO_9)); (case aS => exact (below_size (zB HB))); (case aL => have := LMc25.out; omega); intro v117 w28 ho hb hg hat; rw [← Ny116.out] at ho; replace HO_7 := Am (Kd.Q_after (ok := (fun k_ => some k_ ≠ (u8 : Value).ownBlock)) (zQ HO_7) hg hat);replace HO_8 := Am (Kd.Q_after (ok := (fun k_ => some k_ ≠ (.slice (some ad115) x7_1.length co27 : Value).ownBlock)) (zQ HO_8) hg hat);replace HB := Am (hb);have HO118 := Am (ho);clear HO_9; clear ho hb hg hat; have q29 : (1 : Int) ≤ ((x7_1.length : Int) : Int) := of_decide_eq_true (by assumption); obtain ⟨i029, hi029, _, hsz29, _⟩ := info_parts info26; have hcut29 := cut_from (P := Tryd.prog) 27 26 .i64 Tryd.underlying27 hi029 3 hsz29 (some ad115) x7_1.length co27 1 (by omega) q29; have hr29 := Kd.Q_drop (k := (1 : Int).toNat) HO_7.out (by omega); obtain ⟨A29, hA29⟩ : ∃ A1, A1 = (if co27 = (1 : Int).toNat then (some ad115) else ((some ad115) : Option Addr).map (·.add ((1 : Int).toNat * 3))) := ⟨_, rfl⟩; obtain ⟨c29, hc29⟩ : ∃ c1, c1 = co27 - (1 : Int).toNat := ⟨_, rfl⟩; have hy29 : y119.length = x7_1.length - (1 : Int).toNat := (by rw [Ny119.out, List.length_drop]); rw [← Ny119.out] at hr29; rw [← hy29, ← hA29, ← hc29] at hcut29; replace hr29 : Kd.Q k26 26 w28 w.heap.size (fun k_ => some k_ ≠ (u8 : Value).ownBlock ∧ some k_ ≠ (v117 : Value).ownBlock) (.slice A29 y119.length c29) y119 := (by rw [hA29, hc29, hy29]; exact hr29); have HE29 : Aside0 ((Value.slice A29 y119.length c29).ownBlock = (.slice (some ad115) x7_1.length co27 : Value).ownBlock) := ⟨by rw [hA29]; split <;> (cases ((some ad115) : Option Addr) <;> rfl)⟩; clear hy29 hi029 hsz29 HO_7 hA29 hc29; have HO121 := Am hr29; clear hr29; replace q29 := eq_true q29; have n_ := Am (Kd.Q_mono (ok' := fun k_ => (some k_ ≠ (.slice A29 y119.length c29 : Value).ownBlock ∧ some k_ ≠ (v117 : Value).ownBlock)) HO_8.out (fun k_ hk => ⟨(by rw [HE29.out]; exact hk.1), hk.2⟩)); clear HO_8; have HO_8 := n_; clear n_; have n_ := Am (R_mono (ok' := fun k_ => (some k_ ≠ (.slice A29 y119.length c29 : Value).ownBlock ∧ some k_ ≠ (u8 : Value).ownBlock)) HO118.out (fun k_ hk => ⟨(by rw [HE29.out]; exact hk.1), hk.2⟩)); clear HO118; have HO118 := n_; clear n_))
             go_roundg kj17
             case measure => have := HK1.out; have := HJ11.out; have := HJ17.out; omega
             case rel => exact ⟨(y119), (x8_1), (y116), H', ⟨by have := HK1.out; have := HJ11.out; have := HJ17.out; omega⟩, ⟨(zQ HO121)⟩, ⟨(zQ HO_8)⟩, ⟨(zR HO118)⟩, ⟨(zB HB)⟩⟩
            ·rw [if_neg c26] at H;exact absurd H (by simp)
           ·rw [if_neg c25] at H;exact absurd H (by simp)
          ·rw [if_neg c24] at H;exact absurd H (by simp)
         ·replace c23 := Bool.eq_false_iff.mpr c23
          subst c23
          have H1 : (if (x8_1.length : Int) > 0 then (if 0 < (x8_1.length : Int) then (epitomeref12_Of.j3 kj17 x7_1 x8_1 x9_1 (((rd_T26 x8_1 0).f0) == 2)) else (none)) else (epitomeref12_Of.j3 kj17 x7_1 x8_1 x9_1 false)) = some (r1, r2) := by rw [if_neg (show ¬ (false = true) by decide)] at H; exact H
          clear H;have H := H1
          clear H1;have HC30 := Am H;clear H;go_upto_region 11 with (fail)
          go_cut [61] (fun v61 wc => ∃ (kq : Nat) (x61_29 : Bool), v61 = .bool x61_29 ∧ Aside0 (epitomeref12_Of.j3 kq x7_1 x8_1 x9_1 x61_29 = some (r1, r2)) ∧ Aside0 (kq ≤ kj17) ∧ Aside0 (Kd.Q k26 26 wc w.heap.size (fun k_ => some k_ ≠ (u8 : Value).ownBlock ∧ some k_ ≠ (u9 : Value).ownBlock) u7 x7_1) ∧ Aside0 (Kd.Q k26 26 wc w.heap.size (fun k_ => some k_ ≠ (u7 : Value).ownBlock ∧ some k_ ≠ (u9 : Value).ownBlock) u8 x8_1) ∧ Aside0 (Kd.R k26 26 wc w.heap.size (fun k_ => some k_ ≠ (u7 : Value).ownBlock ∧ some k_ ≠ (u8 : Value).ownBlock) u9 x9_1) ∧ Aside0 (Below w.heap.size w wc))
          case first =>
           have H := HC30.out;clear HC30;by_cases c31 : (x8_1.length : Int) > 0
           ·rw [if_pos c31] at H;have c31b0 : decide (0 < (x8_1.length : Int)) = true := decide_eq_true c31
            have c31b1 : decide (0 < x8_1.length) = true := decide_eq_true (by omega)
            clear c31;(first | rw [c31b0] | (simp only [i64_w, i32_w]; rw [c31b0]) | skip)
            by_cases c32 : 0 < (x8_1.length : Int)
            ·rw [if_pos c32] at H;have c32b0 : decide (0 < (x8_1.length : Int)) = true := decide_eq_true c32
             have c32b1 : decide (0 < x8_1.length) = true := decide_eq_true (by omega)
             clear c32;have H' := Am H
             clear H;obtain ⟨Ao33, co33, eo33, _⟩ := Kd.Q_slice HO_8.out
             subst eo33
             have p122 : 0 ≤ (0 : Int) := (by omega)
             have q122 : 0 < (x8_1.length : Int) := of_decide_eq_true (by assumption)
             obtain ⟨ad122, e122, hx122_0, hx122_1, hx122_2⟩ := at_T26 (Kd.Q_reads' HO_8.out).2.2 0 p122 q122
             cases e122
             have qi122 : (0 < x8_1.length) = True := eq_true (by omega)
             (try rw [zZ] at hx122_0)
             (try rw [zZ] at hx122_1)
             (try rw [zZ] at hx122_2)
             replace p122 := eq_true p122;replace q122 := eq_true q122;go_wp2
             go_meet
             case rel => exact ⟨_, ((((rd_T26 x8_1 0).f0) == 2)), zG, H', ⟨by have := HK1.out; have := HJ11.out; have := HJ17.out; first | omega | exact Nat.le_refl _⟩, ⟨(zQ HO_7)⟩, ⟨(zQ HO_8)⟩, ⟨(zR HO_9)⟩, ⟨(zB HB)⟩⟩
            ·rw [if_neg c32] at H;exact absurd H (by simp)
           ·rw [if_neg c31] at H;have c31b0 : decide (0 < (x8_1.length : Int)) = false := decide_eq_false c31
            have c31b1 : decide (0 < x8_1.length) = false := decide_eq_false (by omega)
            clear c31;(first | rw [c31b0] | (simp only [i64_w, i32_w]; rw [c31b0]) | skip)
            have H' := Am H
            clear H;obtain ⟨Ao34, co34, eo34, _⟩ := Kd.Q_slice HO_8.out
            subst eo34
            go_wp2
            go_meet
            case rel => exact ⟨_, (false), zG, H', ⟨by have := HK1.out; have := HJ11.out; have := HJ17.out; first | omega | exact Nat.le_refl _⟩, ⟨(zQ HO_7)⟩, ⟨(zQ HO_8)⟩, ⟨(zR HO_9)⟩, ⟨(zB HB)⟩⟩
          case rest =>
           clear HC30;(try clear c1);(try clear p1);(try clear q1);(try clear hx1);(try clear qi1);(try clear c2);(try clear p2);(try clear q2);(try clear c3);(try clear c4);(try clear c4b0);(try clear c4b1);(try clear c5);(try clear p11);(try clear q11);(try clear hx11);(try clear qi11);(try clear p12);(try clear q12);(try clear hx12);(try clear qi12);(try clear c13);(try clear c13b0);(try clear c13b1);(try clear c17);(try clear c19);(try clear c19b0);(try clear c19b1);(try clear c20);(try clear c20b0);(try clear c20b1);(try clear c21);(try clear c23);(try clear c24);(try clear c24b0);(try clear c24b1);(try clear c25);(try clear c26);(try clear c26b0);(try clear c26b1);(try clear c29);(try clear q29);(try clear c31);(try clear c31b0);(try clear c31b1);(try clear c32);(try clear c32b0);(try clear c32b1);(try clear hx114_0);(try clear hx114_1);(try clear hx114_2);(try clear hx115_0);(try clear hx115_1);(try clear hx115_2);(try clear hx122_0);(try clear hx122_1);(try clear hx122_2);(try clear p1);(try clear p11);(try clear p114);(try clear p115);(try clear p122);(try clear p2);(try clear q1);(try clear q11);(try clear q114);(try clear q115);(try clear q122);(try clear q29);obtain ⟨kq, x61_29, rfl, HA, HJ29, HO_7, HO_8, HO_9, HB⟩ := hcut
           cases kq with
           | zero => exact absurd HA.out (by simp [epitomeref12_Of.j3])
           | succ kj29 =>
            have H := HA.out;clear HA;simp only [epitomeref12_Of.j3] at H
            by_cases c35 : x61_29 = true
            ·subst c35
             have H1 : (if 0 < (x8_1.length : Int) then ((epitomeref03_Out.f kj29 ((rd_T26 x8_1 0).f0) ((rd_T26 x8_1 0).f1) ((rd_T26 x8_1 0).f2)).bind fun t124 => (if x9_1.length < 4398046511104 then (if 1 ≤ (x8_1.length : Int) then (epitomeref12_Of.l0 kj29 x7_1 (x8_1.drop (1 : Int).toNat) (x9_1 ++ [(⟨1, t124, (⟨#[]⟩ : ByteArray)⟩ : S26)])) else (none)) else (none))) else (none)) = some (r1, r2) := by rw [if_pos rfl] at H; exact H
             clear H;have H := H1
             clear H1;by_cases c36 : 0 < (x8_1.length : Int)
             ·rw [if_pos c36] at H;have c36b0 : decide (0 < (x8_1.length : Int)) = true := decide_eq_true c36
              have c36b1 : decide (0 < x8_1.length) = true := decide_eq_true (by omega)
              clear c36;replace H := Option.bind_eq_some_iff.mp H;obtain ⟨t124, A370, H⟩ := H;replace H : (if x9_1.length < 4398046511104 then (if 1 ≤ (x8_1.length : Int) then (epitomeref12_Of.l0 kj29 x7_1 (x8_1.drop (1 : Int).toNat) (x9_1 ++ [(⟨1, t124, (⟨#[]⟩ : ByteArray)⟩ : S26)])) else (none)) else (none)) = some (r1, r2) := H
              have A37 := Am A370;clear A370;by_cases c38 : x9_1.length < 4398046511104
              ·rw [if_pos c38] at H;have LMc38 := Am c38;clear c38;obtain ⟨y125, hy125⟩ : ∃ y_ : List (S26), y_ = (x9_1 ++ [(⟨1, t124, (⟨#[]⟩ : ByteArray)⟩ : S26)]) := ⟨_, rfl⟩
               replace H : (if 1 ≤ (x8_1.length : Int) then (epitomeref12_Of.l0 kj29 x7_1 (x8_1.drop (1 : Int).toNat) y125) else (none)) = some (r1, r2) := by first | (rw [hy125]; with_reducible exact H) | (have H2_ := (Option.bind_some _ _).symm.trans H; rw [hy125]; with_reducible exact H2_) | (have H2_ := (Option.bind_some _ _).symm.trans H; with_reducible exact H2_) | with_reducible exact H | (rw [hy125]; exact H) | exact H
               have Ny125 := Am hy125;clear hy125;by_cases c39 : 1 ≤ (x8_1.length : Int)
               ·rw [if_pos c39] at H;have c39b0 := eq_true c39
                have c39b1 : decide (1 ≤ (x8_1.length : Int)) = true := decide_eq_true c39
                clear c39;obtain ⟨y128, hy128⟩ : ∃ y_ : List (S26), y_ = (x8_1.drop (1 : Int).toNat) := ⟨_, rfl⟩
                replace H : (epitomeref12_Of.l0 kj29 x7_1 y128 y125) = some (r1, r2) := by first | (rw [hy128]; with_reducible exact H) | (have H2_ := (Option.bind_some _ _).symm.trans H; rw [hy128]; with_reducible exact H2_) | (have H2_ := (Option.bind_some _ _).symm.trans H; with_reducible exact H2_) | with_reducible exact H | (rw [hy128]; exact H) | exact H
                have Ny128 := Am hy128;clear hy128;have H' := Am H
                clear H;obtain ⟨Ao40, co40, eo40, _⟩ := Kd.Q_slice HO_8.out
                subst eo40
                have p123 : 0 ≤ (0 : Int) := (by omega)
                have q123 : 0 < (x8_1.length : Int) := of_decide_eq_true (by assumption)
                obtain ⟨ad123, e123, hx123_0, hx123_1, hx123_2⟩ := at_T26 (Kd.Q_reads' HO_8.out).2.2 0 p123 q123
                cases e123
                have qi123 : (0 < x8_1.length) = True := eq_true (by omega)
                (try rw [zZ] at hx123_0)
                (try rw [zZ] at hx123_1)
                (try rw [zZ] at hx123_2)
                replace p123 := eq_true p123;replace q123 := eq_true q123;go_wp2_with (first | ((with_reducible refine gate_callee (f := 60) rfl ?_); refine goesL_ (some 66) rfl rfl Tryd.func60 (by kernel_rfl) rfl #[.agg #[.int .i64 ((rd_T26 x8_1 0).f0), .int .i64 ((rd_T26 x8_1 0).f1), .string ((rd_T26 x8_1 0).f2)]] rfl zE ?_; (with_reducible refine (epitomeref03_Out.calls kj29 ((rd_T26 x8_1 0).f0) ((rd_T26 x8_1 0).f1) ((rd_T26 x8_1 0).f2) t124 _ A37.out).mono ?_); rintro e w41 ⟨rfl, hb⟩; refine ⟨_, rfl, ?_⟩; replace HO_7 := Am (Kd.Q_below (zQ HO_7) hb);replace HO_8 := Am (Kd.Q_below (zQ HO_8) hb);replace HO_9 := Am (R_below (zR HO_9) hb);replace HB := Am (below_step (zB HB) hb); (try clear hb)) | ((with_reducible refine gate_builtin (b := .append) (xs := #[.tmp 62, .tmp 68]) rfl ?_); (try (refine gate_guard (by rfl) ?_; dsimp only)); at_builtin; refine R_append k26 (w0 := w) w.heap.size rfl (.tmp 62) (.tmp 68) 27 26 (.agg #[(.int .i64 0), (.int .i64 0), (.string ⟨#[]⟩)]) 32 rfl Tryd.underlying27 info26 rfl (by decide) (by omega) u9 x9_1 (⟨1, t124, (⟨#[]⟩ : ByteArray)⟩ : S26) [.int .i64 1, .int .i64 t124, .string (⟨#[]⟩ : ByteArray)] (fun k_ => some k_ ≠ (u7 : Value).ownBlock ∧ some k_ ≠ (.slice (some ad123) x8_1.length co40 : Value).ownBlock) (fun _ => False) rfl rfl ?aP (fun _ hk => hk.elim) ?aF ?aO ?aB ?aS ?aL ?_; (case aP => exact k26_mkM _ _ _ (⟨1, t124, (⟨#[]⟩ : ByteArray)⟩ : S26)); (case aB => exact (zB HB)); (case aF => exact (fun k_ hk => ⟨Kd.fresh' (Kd.Q_lt (zQ HO_7)) k_ hk, Kd.fresh' (Kd.Q_lt (zQ HO_8)) k_ hk⟩)); (case aO => exact (zR HO_9)); (case aS => exact (below_size (zB HB))); (case aL => have := LMc38.out; omega); intro v126 w42 ho hb hg hat; rw [← Ny125.out] at ho; replace HO_7 := Am (Kd.Q_after (ok := (fun k_ => some k_ ≠ (.slice (some ad123) x8_1.length co40 : Value).ownBlock)) (zQ HO_7) hg hat);replace HO_8 := Am (Kd.Q_after (ok := (fun k_ => some k_ ≠ (u7 : Value).ownBlock)) (zQ HO_8) hg hat);replace HB := Am (hb);have HO127 := Am (ho);clear HO_9; clear ho hb hg hat; have q43 : (1 : Int) ≤ ((x8_1.length : Int) : Int) := of_decide_eq_true (by assumption); obtain ⟨i043, hi043, _, hsz43, _⟩ := info_parts info26; have hcut43 := cut_from (P := Tryd.prog) 27 26 .i64 Tryd.underlying27 hi043 3 hsz43 (some ad123) x8_1.length co40 1 (by omega) q43; have hr43 := Kd.Q_drop (k := (1 : Int).toNat) HO_8.out (by omega); obtain ⟨A43, hA43⟩ : ∃ A1, A1 = (if co40 = (1 : Int).toNat then (some ad123) else ((some ad123) : Option Addr).map (·.add ((1 : Int).toNat * 3))) := ⟨_, rfl⟩; obtain ⟨c43, hc43⟩ : ∃ c1, c1 = co40 - (1 : Int).toNat := ⟨_, rfl⟩; have hy43 : y128.length = x8_1.length - (1 : Int).toNat := (by rw [Ny128.out, List.length_drop]); rw [← Ny128.out] at hr43; rw [← hy43, ← hA43, ← hc43] at hcut43; replace hr43 : Kd.Q k26 26 w42 w.heap.size (fun k_ => some k_ ≠ (u7 : Value).ownBlock ∧ some k_ ≠ (v126 : Value).ownBlock) (.slice A43 y128.length c43) y128 := (by rw [hA43, hc43, hy43]; exact hr43); have HE43 : Aside0 ((Value.slice A43 y128.length c43).ownBlock = (.slice (some ad123) x8_1.length co40 : Value).ownBlock) := ⟨by rw [hA43]; split <;> (cases ((some ad123) : Option Addr) <;> rfl)⟩; clear hy43 hi043 hsz43 HO_8 hA43 hc43; have HO130 := Am hr43; clear hr43; replace q43 := eq_true q43; have n_ := Am (Kd.Q_mono (ok' := fun k_ => (some k_ ≠ (.slice A43 y128.length c43 : Value).ownBlock ∧ some k_ ≠ (v126 : Value).ownBlock)) HO_7.out (fun k_ hk => ⟨(by rw [HE43.out]; exact hk.1), hk.2⟩)); clear HO_7; have HO_7 := n_; clear n_; have n_ := Am (R_mono (ok' := fun k_ => (some k_ ≠ (u7 : Value).ownBlock ∧ some k_ ≠ (.slice A43 y128.length c43 : Value).ownBlock)) HO127.out (fun k_ hk => ⟨hk.1, (by rw [HE43.out]; exact hk.2)⟩)); clear HO127; have HO127 := n_; clear n_))
                go_roundg kj29
                case measure => have := HK1.out; have := HJ11.out; have := HJ17.out; have := HJ29.out; omega
                case rel => exact ⟨(x7_1), (y128), (y125), H', ⟨by have := HK1.out; have := HJ11.out; have := HJ17.out; have := HJ29.out; omega⟩, ⟨(zQ HO_7)⟩, ⟨(zQ HO130)⟩, ⟨(zR HO127)⟩, ⟨(zB HB)⟩⟩
               ·rw [if_neg c39] at H;exact absurd H (by simp)
              ·rw [if_neg c38] at H;exact absurd H (by simp)
             ·rw [if_neg c36] at H;exact absurd H (by simp)
            ·replace c35 := Bool.eq_false_iff.mpr c35
             subst c35
             have H1 : (if 0 < (x7_1.length : Int) then (if 0 < (x8_1.length : Int) then ((epitomeref09_First.f kj29 ((rd_T26 x7_1 0).f0) ((rd_T26 x7_1 0).f1) ((rd_T26 x7_1 0).f2) (mn ((rd_T26 x7_1 0).f1) ((rd_T26 x8_1 0).f1))).bind fun bt134 => ((epitomeref09_First.f kj29 ((rd_T26 x8_1 0).f0) ((rd_T26 x8_1 0).f1) ((rd_T26 x8_1 0).f2) (mn ((rd_T26 x7_1 0).f1) ((rd_T26 x8_1 0).f1))).bind fun bt143 => (if bt143.1 = 1 then (if x9_1.length < 4398046511104 then (epitomeref12_Of.j4 kj29 x7_1 x8_1 (x9_1 ++ [(⟨bt134.1, bt134.2.1, bt134.2.2.1⟩ : S26)]) bt134.2.2.2.1 bt134.2.2.2.2.1 bt134.2.2.2.2.2 bt143.2.2.2.1 bt143.2.2.2.2.1 bt143.2.2.2.2.2) else (none)) else (epitomeref12_Of.j4 kj29 x7_1 x8_1 x9_1 bt134.2.2.2.1 bt134.2.2.2.2.1 bt134.2.2.2.2.2 bt143.2.2.2.1 bt143.2.2.2.2.1 bt143.2.2.2.2.2)))) else (none)) else (none)) = some (r1, r2) := by rw [if_neg (show ¬ (false = true) by decide)] at H; exact H
             clear H;have H := H1
             clear H1;by_cases c44 : 0 < (x7_1.length : Int)
             ·rw [if_pos c44] at H;have c44b0 : decide (0 < (x7_1.length : Int)) = true := decide_eq_true c44
              have c44b1 : decide (0 < x7_1.length) = true := decide_eq_true (by omega)
              clear c44;by_cases c45 : 0 < (x8_1.length : Int)
              ·rw [if_pos c45] at H;have c45b0 : decide (0 < (x8_1.length : Int)) = true := decide_eq_true c45
               have c45b1 : decide (0 < x8_1.length) = true := decide_eq_true (by omega)
               clear c45;obtain ⟨ji46, hji46⟩ : ∃ j_ : Int, (mn ((rd_T26 x7_1 0).f1) ((rd_T26 x8_1 0).f1)) = j_ := ⟨_, rfl⟩
               replace H : ((epitomeref09_First.f kj29 ((rd_T26 x7_1 0).f0) ((rd_T26 x7_1 0).f1) ((rd_T26 x7_1 0).f2) (ji46)).bind fun bt134 => ((epitomeref09_First.f kj29 ((rd_T26 x8_1 0).f0) ((rd_T26 x8_1 0).f1) ((rd_T26 x8_1 0).f2) (ji46)).bind fun bt143 => (if bt143.1 = 1 then (if x9_1.length < 4398046511104 then (epitomeref12_Of.j4 kj29 x7_1 x8_1 (x9_1 ++ [(⟨bt134.1, bt134.2.1, bt134.2.2.1⟩ : S26)]) bt134.2.2.2.1 bt134.2.2.2.2.1 bt134.2.2.2.2.2 bt143.2.2.2.1 bt143.2.2.2.2.1 bt143.2.2.2.2.2) else (none)) else (epitomeref12_Of.j4 kj29 x7_1 x8_1 x9_1 bt134.2.2.2.1 bt134.2.2.2.2.1 bt134.2.2.2.2.2 bt143.2.2.2.1 bt143.2.2.2.2.1 bt143.2.2.2.2.2)))) = some (r1, r2) := by first | (rw [hji46] at H; exact H) | (simp only [hji46] at H ⊢; exact H)
               have hji46_ : (if ((rd_T26 x8_1 0).f1) < ((rd_T26 x7_1 0).f1) then ((rd_T26 x8_1 0).f1) else ((rd_T26 x7_1 0).f1)) = ji46 := hji46
               replace H := Option.bind_eq_some_iff.mp H;obtain ⟨⟨t134, t135, t136, t137, t138, t139⟩, A470, H⟩ := H;replace H : ((epitomeref09_First.f kj29 ((rd_T26 x8_1 0).f0) ((rd_T26 x8_1 0).f1) ((rd_T26 x8_1 0).f2) (ji46)).bind fun bt143 => (if bt143.1 = 1 then (if x9_1.length < 4398046511104 then (epitomeref12_Of.j4 kj29 x7_1 x8_1 (x9_1 ++ [(⟨t134, t135, t136⟩ : S26)]) t137 t138 t139 bt143.2.2.2.1 bt143.2.2.2.2.1 bt143.2.2.2.2.2) else (none)) else (epitomeref12_Of.j4 kj29 x7_1 x8_1 x9_1 t137 t138 t139 bt143.2.2.2.1 bt143.2.2.2.2.1 bt143.2.2.2.2.2))) = some (r1, r2) := H
               have A47 := Am A470;clear A470;replace H := Option.bind_eq_some_iff.mp H;obtain ⟨⟨t143, t144, t145, t146, t147, t148⟩, A480, H⟩ := H;replace H : (if t143 = 1 then (if x9_1.length < 4398046511104 then (epitomeref12_Of.j4 kj29 x7_1 x8_1 (x9_1 ++ [(⟨t134, t135, t136⟩ : S26)]) t137 t138 t139 t146 t147 t148) else (none)) else (epitomeref12_Of.j4 kj29 x7_1 x8_1 x9_1 t137 t138 t139 t146 t147 t148)) = some (r1, r2) := H
               have A48 := Am A480;clear A480;have HC49 := Am H;clear H;try go_wp2
               replace HO_7 := Am (Kd.Q_drew HO_7.out);replace HO_8 := Am (Kd.Q_drew HO_8.out);replace HO_9 := Am (R_drew HO_9.out);replace HB := Am (below_drew1 HB.out);obtain ⟨Ao51, co51, eo51, _⟩ := Kd.Q_slice HO_7.out
               (first | subst eo51 | (injection eo51 with f1_ f2_ f3_; have f4_ := f1_.symm; have f5_ := f3_.symm; clear f1_ f2_ f3_; subst f4_; subst f5_))
               have p131 : 0 ≤ (0 : Int) := (by omega)
               have q131 : 0 < (x7_1.length : Int) := of_decide_eq_true (by assumption)
               obtain ⟨ad131, e131, hx131_0, hx131_1, hx131_2⟩ := at_T26 (Kd.Q_reads' HO_7.out).2.2 0 p131 q131
               cases e131
               have qi131 : (0 < x7_1.length) = True := eq_true (by omega)
               (try rw [zZ] at hx131_0)
               (try rw [zZ] at hx131_1)
               (try rw [zZ] at hx131_2)
               replace p131 := eq_true p131;replace q131 := eq_true q131;obtain ⟨Ao52, co52, eo52, _⟩ := Kd.Q_slice HO_8.out
               (first | subst eo52 | (injection eo52 with f1_ f2_ f3_; have f4_ := f1_.symm; have f5_ := f3_.symm; clear f1_ f2_ f3_; subst f4_; subst f5_))
               have p132 : 0 ≤ (0 : Int) := (by omega)
               have q132 : 0 < (x8_1.length : Int) := of_decide_eq_true (by assumption)
               obtain ⟨ad132, e132, hx132_0, hx132_1, hx132_2⟩ := at_T26 (Kd.Q_reads' HO_8.out).2.2 0 p132 q132
               cases e132
               have qi132 : (0 < x8_1.length) = True := eq_true (by omega)
               (try rw [zZ] at hx132_0)
               (try rw [zZ] at hx132_1)
               (try rw [zZ] at hx132_2)
               replace p132 := eq_true p132;replace q132 := eq_true q132;refine start_ (n := 10) (S := fun w' => w'.cell? ad131 = some (.int .i64 ((rd_T26 x7_1 0).f0)) ∧ w'.cell? ⟨ad131.block, ad131.off + 1, none⟩ = some (.int .i64 ((rd_T26 x7_1 0).f1)) ∧ w'.cell? ⟨ad131.block, ad131.off + 2, none⟩ = some (.string ((rd_T26 x7_1 0).f2)) ∧ w'.cell? ad132 = some (.int .i64 ((rd_T26 x8_1 0).f0)) ∧ w'.cell? ⟨ad132.block, ad132.off + 1, none⟩ = some (.int .i64 ((rd_T26 x8_1 0).f1)) ∧ w'.cell? ⟨ad132.block, ad132.off + 2, none⟩ = some (.string ((rd_T26 x8_1 0).f2))) (ds := []) #[false, false, false, false, false, false, false, false, false, false] (by kernel_rfl) rfl rfl ⟨hx131_0, hx131_1, hx131_2, hx132_0, hx132_1, hx132_2⟩ (fun hHeld => ?_); refine with_tabW epitomeref12_Of.tab14 epitomeref12_Of.bits14 (fun HT_ HW_ => ?_)
               generalize wc.drew = w50 at HO_7 HO_8 HO_9 HB hx131_0 hx131_1 hx131_2 hx132_0 hx132_1 hx132_2 hHeld ⊢
               refine pure_ (i := 0) (N := some 72) (v := ?_) (a' := ?_) #[true, false, false, false, false, false, false, false, false, false] rfl rfl (any_of HT_.out (by kernel_rfl)) (fun _ _ _ h => h) (Or.inl ⟨by rfl, ?_⟩) ?_ ?_
               rotate_left
               ·intro w'
                go_simp;with_reducible rfl
               rotate_left
               ·simp only [Act.put, zS, i64_w, i32_w]
                rfl
               refine pure_ (i := 1) (N := some 73) (v := ?_) (a' := ?_) #[true, true, false, false, false, false, false, false, false, false] rfl rfl (any_of HT_.out (by kernel_rfl)) (fun _ _ _ h => h) (Or.inl ⟨by rfl, ?_⟩) ?_ ?_
               rotate_left
               ·intro w'
                go_simp;with_reducible rfl
               rotate_left
               ·simp only [Act.put, zS, i64_w, i32_w]
                rfl
               refine pure_ (i := 2) (N := some 74) (v := ?_) (a' := ?_) #[true, true, true, false, false, false, false, false, false, false] rfl rfl (any_of HT_.out (by kernel_rfl)) (fun _ _ _ h => h) (Or.inl ⟨by rfl, ?_⟩) ?_ ?_
               rotate_left
               ·intro w'
                go_simp;with_reducible rfl
               rotate_left
               ·simp only [Act.put, zS, i64_w, i32_w]
                rfl
               refine pure_ (i := 4) (N := some 76) (v := ?_) (a' := ?_) #[true, true, true, false, true, false, false, false, false, false] rfl rfl (any_of HT_.out (by kernel_rfl)) (fun _ _ _ h => h) (Or.inl ⟨by rfl, ?_⟩) ?_ ?_
               rotate_left
               ·intro w'
                go_simp;with_reducible rfl
               rotate_left
               ·simp only [Act.put, zS, i64_w, i32_w]
                rfl
               refine pure_ (i := 5) (N := some 77) (v := ?_) (a' := ?_) #[true, true, true, false, true, true, false, false, false, false] rfl rfl (any_of HT_.out (by kernel_rfl)) (fun _ _ _ h => h) (Or.inl ⟨by rfl, ?_⟩) ?_ ?_
               rotate_left
               ·intro w'
                go_simp;with_reducible rfl
               rotate_left
               ·simp only [Act.put, zS, i64_w, i32_w]
                rfl
               refine pure_ (i := 6) (N := some 78) (v := ?_) (a' := ?_) #[true, true, true, false, true, true, true, false, false, false] rfl rfl (any_of HT_.out (by kernel_rfl)) (fun _ _ _ h => h) (Or.inl ⟨by rfl, ?_⟩) ?_ ?_
               rotate_left
               ·intro w'
                go_simp;with_reducible rfl
               rotate_left
               ·simp only [Act.put, zS, i64_w, i32_w]
                rfl
               refine take_ (i := 3) (N := some 75) (v := ?_) (a' := ?_) #[true, true, true, true, true, true, true, false, false, false] rfl rfl (take_ofW HT_.out HW_.out (by kernel_rfl)) (fun _ _ _ h => h) (Or.inl ⟨by rfl, ?_⟩) hHeld ?_ ?_
               rotate_left
               ·rintro w' ⟨s0, s1, s2, s3, s4, s5⟩
                go_simp;with_reducible rfl
               rotate_left
               ·simp only [Act.put, zS, i64_w, i32_w]
                rfl
               refine take_ (i := 7) (N := some 79) (v := ?_) (a' := ?_) #[true, true, true, true, true, true, true, true, false, false] rfl rfl (take_ofW HT_.out HW_.out (by kernel_rfl)) (fun _ _ _ h => h) (Or.inl ⟨by rfl, ?_⟩) hHeld ?_ ?_
               rotate_left
               ·rintro w' ⟨s0, s1, s2, s3, s4, s5⟩
                go_simp;with_reducible rfl
               rotate_left
               ·simp only [Act.put, zS, i64_w, i32_w]
                rfl
               refine pure_ (i := 8) (N := some 80) (v := ?_) (a' := ?_) #[true, true, true, true, true, true, true, true, true, false] rfl rfl (any_of HT_.out (by kernel_rfl)) (fun _ _ _ h => h) (Or.inl ⟨by rfl, ?_⟩) ?_ ?_
               rotate_left
               ·intro w'
                go_simp;with_reducible rfl
               rotate_left
               ·simp only [Act.put, zS, i64_w, i32_w]
                rfl
               refine pure_ (i := 9) (N := some 10) (v := ?_) (a' := ?_) #[true, true, true, true, true, true, true, true, true, true] rfl rfl (any_of HT_.out (by kernel_rfl)) (fun _ _ _ h => h) (Or.inl ⟨by rfl, ?_⟩) ?_ ?_
               rotate_left
               ·intro w'
                go_simp;with_reducible rfl
               rotate_left
               ·simp only [Act.put, zS, i64_w, i32_w]
                rfl
               refine done_ (done_of HT_.out (by kernel_rfl)) ?_
               have p133 : 0 ≤ (0 : Int) := (by omega)
               have q133 : 0 < (x7_1.length : Int) := of_decide_eq_true (by assumption)
               obtain ⟨ad133, e133, hx133_0, hx133_1, hx133_2⟩ := at_T26 (Kd.Q_reads' HO_7.out).2.2 0 p133 q133
               obtain rfl : ad131 = ad133 := (by injection e133)
               have qi133 : (0 < x7_1.length) = True := eq_true (by omega)
               (try rw [zZ] at hx133_0)
               (try rw [zZ] at hx133_1)
               (try rw [zZ] at hx133_2)
               replace p133 := eq_true p133;replace q133 := eq_true q133;go_upto_if 99 with (first | ((with_reducible refine gate_callee (f := 61) rfl ?_); refine goesL_ (some 86) rfl rfl Tryd.func61 (by kernel_rfl) rfl #[.agg #[.int .i64 ((rd_T26 x7_1 0).f0), .int .i64 ((rd_T26 x7_1 0).f1), .string ((rd_T26 x7_1 0).f2)], .int .i64 ji46] rfl (by (try simp only [List.map_toArray, List.map_cons, List.map_nil]); first | done | (simp only [hji46]; rfl) | rfl | (simp only [List.length_drop, List.length_take]; rfl)) ?_; (with_reducible refine (epitomeref09_First.calls kj29 ((rd_T26 x7_1 0).f0) ((rd_T26 x7_1 0).f1) ((rd_T26 x7_1 0).f2) ji46 t134 t135 t136 t137 t138 t139 _ A47.out).mono ?_); rintro e w53 ⟨rfl, hb⟩; refine ⟨_, rfl, ?_⟩; replace HO_7 := Am (Kd.Q_below (zQ HO_7) hb);replace HO_8 := Am (Kd.Q_below (zQ HO_8) hb);replace HO_9 := Am (R_below (zR HO_9) hb);replace HB := Am (below_step (zB HB) hb); (try clear hb)) | ((with_reducible refine gate_dst (N := 11) rfl ?_); (try (refine gate_guard (by rfl) ?_; dsimp only)); refine box_event ?hg (N := 11) ?hd (cs := #[.int .i64 0, .int .i64 0, .string (⟨#[]⟩ : ByteArray)]) (t := 26) ?hr ?_; (case hd => rfl); (case hg => rfl); (case hr => first | (go_simp; done) | (go_simp; rfl)); intro gb140 hg w54 hbox hb; replace HO_7 := Am (Kd.Q_below (Kd.Q_elderB (zQ HO_7) gb140 (Nat.le_of_eq hg.symm)) hb);replace HO_8 := Am (Kd.Q_below (Kd.Q_elderB (zQ HO_8) gb140 (Nat.le_of_eq hg.symm)) hb);replace HO_9 := Am (R_below (R_elderB (zR HO_9) gb140 (Nat.le_of_eq hg.symm)) hb);have BK140 := Am (hbox);have GW140 := Am (zO (w := w) HB hg);have GE140 := Am (zO (w := w) HB hg);replace HB := Am (below_step (zB HB) hb); clear hb hbox hg) | ((with_reducible refine gate_dst (N := 12) rfl ?_); (try (refine gate_guard (by rfl) ?_; dsimp only)); refine box_event ?hg (N := 12) ?hd (cs := #[.int .i64 0, .int .i64 0, .string (⟨#[]⟩ : ByteArray)]) (t := 26) ?hr ?_; (case hd => rfl); (case hg => rfl); (case hr => first | (go_simp; done) | (go_simp; rfl)); intro gb141 hg w55 hbox hb; replace HO_7 := Am (Kd.Q_below (Kd.Q_elderB (zQ HO_7) gb141 (Nat.le_of_eq hg.symm)) hb);replace HO_8 := Am (Kd.Q_below (Kd.Q_elderB (zQ HO_8) gb141 (Nat.le_of_eq hg.symm)) hb);replace HO_9 := Am (R_below (R_elderB (zR HO_9) gb141 (Nat.le_of_eq hg.symm)) hb);have BK141 := Am (hbox);have GW141 := Am (zO (w := w) HB hg);have GE141 := Am (zO (w := w) HB hg);replace HB := Am (below_step (zB HB) hb);have NB140_141 := Am ((by rw [hg]; exact Nat.ne_of_lt (zL BK140) : gb140 ≠ gb141));have NB141_140 := Am ((by rw [hg]; exact Nat.ne_of_gt (zL BK140) : gb141 ≠ gb140));replace BK140 := Am (zU BK140 hb); clear hb hbox hg; have hnb56 := NB140_141.out; have hnc56 := NB141_140.out; obtain ⟨hcz57_0, hcz57_1, hcz57_2, hfz57_0, hfz57_1, hfz57_2⟩ := zc3 BK140; obtain ⟨hcz58_0, hcz58_1, hcz58_2, hfz58_0, hfz58_1, hfz58_2⟩ := zc3 BK141; have p142 : 0 ≤ (0 : Int) := (by omega); have q142 : 0 < (x8_1.length : Int) := of_decide_eq_true (by assumption); obtain ⟨ad142, e142, hx142_0, hx142_1, hx142_2⟩ := at_T26 (Kd.Q_reads' HO_8.out).2.2 0 p142 q142; obtain rfl : ad132 = ad142 := (by injection e142); have qi142 : (0 < x8_1.length) = True := eq_true (by omega); (try rw [zZ] at hx142_0); (try rw [zZ] at hx142_1); (try rw [zZ] at hx142_2); have hn142_0 : ad132.block ≠ gb140 := Kd.own_blk (by first | exact Kd.Q_ne HO_8.out BK140.out (by decide) | (intro e_; have o_ := HO_8.out.1 _ e_.symm; exact absurd rfl (by first | exact o_.2 | exact o_.1.2 | exact o_.1.1.2 | exact o_.1.1.1.2))); have hn142_1 : ad132.block ≠ gb140 := Kd.own_blk (by first | exact Kd.Q_ne HO_8.out BK140.out (by decide) | (intro e_; have o_ := HO_8.out.1 _ e_.symm; exact absurd rfl (by first | exact o_.2 | exact o_.1.2 | exact o_.1.1.2 | exact o_.1.1.1.2))); have hn142_2 : ad132.block ≠ gb140 := Kd.own_blk (by first | exact Kd.Q_ne HO_8.out BK140.out (by decide) | (intro e_; have o_ := HO_8.out.1 _ e_.symm; exact absurd rfl (by first | exact o_.2 | exact o_.1.2 | exact o_.1.1.2 | exact o_.1.1.1.2))); have hn142_3 : ad132.block ≠ gb141 := Kd.own_blk (by first | exact Kd.Q_ne HO_8.out BK141.out (by decide) | (intro e_; have o_ := HO_8.out.1 _ e_.symm; exact absurd rfl (by first | exact o_.2 | exact o_.1.2 | exact o_.1.1.2 | exact o_.1.1.1.2))); have hn142_4 : ad132.block ≠ gb141 := Kd.own_blk (by first | exact Kd.Q_ne HO_8.out BK141.out (by decide) | (intro e_; have o_ := HO_8.out.1 _ e_.symm; exact absurd rfl (by first | exact o_.2 | exact o_.1.2 | exact o_.1.1.2 | exact o_.1.1.1.2))); have hn142_5 : ad132.block ≠ gb141 := Kd.own_blk (by first | exact Kd.Q_ne HO_8.out BK141.out (by decide) | (intro e_; have o_ := HO_8.out.1 _ e_.symm; exact absurd rfl (by first | exact o_.2 | exact o_.1.2 | exact o_.1.1.2 | exact o_.1.1.1.2))); replace hx142_0 := (cell_far (p := ⟨gb140, 0, none⟩) (zN hn142_0) (.int .i64 t134)).trans hx142_0; replace hx142_1 := (cell_far (p := ⟨gb140, 0, none⟩) (zN hn142_0) (.int .i64 t134)).trans hx142_1; replace hx142_2 := (cell_far (p := ⟨gb140, 0, none⟩) (zN hn142_0) (.int .i64 t134)).trans hx142_2; replace hx142_0 := (cell_far (p := ⟨gb140, 1, none⟩) (zN hn142_1) (.int .i64 t135)).trans hx142_0; replace hx142_1 := (cell_far (p := ⟨gb140, 1, none⟩) (zN hn142_1) (.int .i64 t135)).trans hx142_1; replace hx142_2 := (cell_far (p := ⟨gb140, 1, none⟩) (zN hn142_1) (.int .i64 t135)).trans hx142_2; replace hx142_0 := (cell_far (p := ⟨gb140, 2, none⟩) (zN hn142_2) (.string t136)).trans hx142_0; replace hx142_1 := (cell_far (p := ⟨gb140, 2, none⟩) (zN hn142_2) (.string t136)).trans hx142_1; replace hx142_2 := (cell_far (p := ⟨gb140, 2, none⟩) (zN hn142_2) (.string t136)).trans hx142_2; replace hx142_0 := (cell_far (p := ⟨gb141, 0, none⟩) (zN hn142_3) (.int .i64 t137)).trans hx142_0; replace hx142_1 := (cell_far (p := ⟨gb141, 0, none⟩) (zN hn142_3) (.int .i64 t137)).trans hx142_1; replace hx142_2 := (cell_far (p := ⟨gb141, 0, none⟩) (zN hn142_3) (.int .i64 t137)).trans hx142_2; replace hx142_0 := (cell_far (p := ⟨gb141, 1, none⟩) (zN hn142_4) (.int .i64 t138)).trans hx142_0; replace hx142_1 := (cell_far (p := ⟨gb141, 1, none⟩) (zN hn142_4) (.int .i64 t138)).trans hx142_1; replace hx142_2 := (cell_far (p := ⟨gb141, 1, none⟩) (zN hn142_4) (.int .i64 t138)).trans hx142_2; replace hx142_0 := (cell_far (p := ⟨gb141, 2, none⟩) (zN hn142_5) (.string t139)).trans hx142_0; replace hx142_1 := (cell_far (p := ⟨gb141, 2, none⟩) (zN hn142_5) (.string t139)).trans hx142_1; replace hx142_2 := (cell_far (p := ⟨gb141, 2, none⟩) (zN hn142_5) (.string t139)).trans hx142_2; clear hn142_0; clear hn142_1; clear hn142_2; clear hn142_3; clear hn142_4; clear hn142_5; replace p142 := eq_true p142; replace q142 := eq_true q142) | ((with_reducible refine gate_callee (f := 61) rfl ?_); refine goesL_ (some 94) rfl rfl Tryd.func61 (by kernel_rfl) rfl #[.agg #[.int .i64 ((rd_T26 x8_1 0).f0), .int .i64 ((rd_T26 x8_1 0).f1), .string ((rd_T26 x8_1 0).f2)], .int .i64 ji46] rfl (by (try simp only [List.map_toArray, List.map_cons, List.map_nil]); first | done | (simp only [hji46]; rfl) | rfl | (simp only [List.length_drop, List.length_take]; rfl)) ?_; (with_reducible refine (epitomeref09_First.calls kj29 ((rd_T26 x8_1 0).f0) ((rd_T26 x8_1 0).f1) ((rd_T26 x8_1 0).f2) ji46 t143 t144 t145 t146 t147 t148 _ A48.out).mono ?_); rintro e w59 ⟨rfl, hb⟩; refine ⟨_, rfl, ?_⟩; replace HO_7 := Am (Kd.Q_below (by (with_reducible repeat (first | apply zA.p | apply zA.q | apply zA.r)); exact (Kd.Q_mono (Kd.Q_mono (zX (zX (Kd.Q_mono (Kd.Q_mono HO_7.out (fun k_ hk => (⟨hk, hk.1.2⟩ : _ ∧ k_ ≠ gb140))) (fun k_ hk => (⟨hk, hk.1.2⟩ : _ ∧ k_ ≠ gb141))) gb140 (fun _ hk => hk.1.2) (.int .i64 t134) (.int .i64 t135) (.string t136)) gb141 (fun _ hk => hk.2) (.int .i64 t137) (.int .i64 t138) (.string t139)) (fun _ h_ => h_.1)) (fun _ h_ => h_.1))) hb);replace HO_8 := Am (Kd.Q_below (by (with_reducible repeat (first | apply zA.p | apply zA.q | apply zA.r)); exact (Kd.Q_mono (Kd.Q_mono (zX (zX (Kd.Q_mono (Kd.Q_mono HO_8.out (fun k_ hk => (⟨hk, hk.1.2⟩ : _ ∧ k_ ≠ gb140))) (fun k_ hk => (⟨hk, hk.1.2⟩ : _ ∧ k_ ≠ gb141))) gb140 (fun _ hk => hk.1.2) (.int .i64 t134) (.int .i64 t135) (.string t136)) gb141 (fun _ hk => hk.2) (.int .i64 t137) (.int .i64 t138) (.string t139)) (fun _ h_ => h_.1)) (fun _ h_ => h_.1))) hb);replace HO_9 := Am (R_below (by (with_reducible repeat (first | apply zA.a | apply zA.n | apply zA.d)); exact (R_mono (R_mono (zY (zY (R_mono (R_mono HO_9.out (fun k_ hk => (⟨hk, hk.1.2⟩ : _ ∧ k_ ≠ gb140))) (fun k_ hk => (⟨hk, hk.1.2⟩ : _ ∧ k_ ≠ gb141))) gb140 (fun _ hk => hk.1.2) (.int .i64 t134) (.int .i64 t135) (.string t136)) gb141 (fun _ hk => hk.2) (.int .i64 t137) (.int .i64 t138) (.string t139)) (fun _ h_ => h_.1)) (fun _ h_ => h_.1))) hb);replace BK140 := Am (blk_below (g := gb140) (o := .cells #[.int .i64 t134, .int .i64 t135, .string t136] 26 (0, 0)) (zP BK140) hb);replace BK141 := Am (blk_below (g := gb141) (o := .cells #[.int .i64 t137, .int .i64 t138, .string t139] 26 (0, 0)) (zP BK141) hb);replace HB := Am (below_step (zB HB) hb); (try clear hb)) | ((with_reducible refine gate_dst (N := 13) rfl ?_); (try (refine gate_guard (by rfl) ?_; dsimp only)); refine box_event ?hg (N := 13) ?hd (cs := #[.int .i64 0, .int .i64 0, .string (⟨#[]⟩ : ByteArray)]) (t := 26) ?hr ?_; (case hd => rfl); (case hg => rfl); (case hr => first | (go_simp; done) | (go_simp; rfl)); intro gb149 hg w60 hbox hb; replace HO_7 := Am (Kd.Q_below (Kd.Q_elderB (zQ HO_7) gb149 (Nat.le_of_eq hg.symm)) hb);replace HO_8 := Am (Kd.Q_below (Kd.Q_elderB (zQ HO_8) gb149 (Nat.le_of_eq hg.symm)) hb);replace HO_9 := Am (R_below (R_elderB (zR HO_9) gb149 (Nat.le_of_eq hg.symm)) hb);have BK149 := Am (hbox);have GW149 := Am (zO (w := w) HB hg);have GE149 := Am (zO (w := w) HB hg);replace HB := Am (below_step (zB HB) hb);have NB140_149 := Am ((by rw [hg]; exact Nat.ne_of_lt (zL BK140) : gb140 ≠ gb149));have NB149_140 := Am ((by rw [hg]; exact Nat.ne_of_gt (zL BK140) : gb149 ≠ gb140));replace BK140 := Am (zU BK140 hb);have NB141_149 := Am ((by rw [hg]; exact Nat.ne_of_lt (zL BK141) : gb141 ≠ gb149));have NB149_141 := Am ((by rw [hg]; exact Nat.ne_of_gt (zL BK141) : gb149 ≠ gb141));replace BK141 := Am (zU BK141 hb); clear hb hbox hg) | ((with_reducible refine gate_dst (N := 14) rfl ?_); (try (refine gate_guard (by rfl) ?_; dsimp only)); refine box_event ?hg (N := 14) ?hd (cs := #[.int .i64 0, .int .i64 0, .string (⟨#[]⟩ : ByteArray)]) (t := 26) ?hr ?_; (case hd => rfl); (case hg => rfl); (case hr => first | (go_simp; done) | (go_simp; rfl)); intro gb150 hg w61 hbox hb; replace HO_7 := Am (Kd.Q_below (Kd.Q_elderB (zQ HO_7) gb150 (Nat.le_of_eq hg.symm)) hb);replace HO_8 := Am (Kd.Q_below (Kd.Q_elderB (zQ HO_8) gb150 (Nat.le_of_eq hg.symm)) hb);replace HO_9 := Am (R_below (R_elderB (zR HO_9) gb150 (Nat.le_of_eq hg.symm)) hb);have BK150 := Am (hbox);have GW150 := Am (zO (w := w) HB hg);have GE150 := Am (zO (w := w) HB hg);replace HB := Am (below_step (zB HB) hb);have NB140_150 := Am ((by rw [hg]; exact Nat.ne_of_lt (zL BK140) : gb140 ≠ gb150));have NB150_140 := Am ((by rw [hg]; exact Nat.ne_of_gt (zL BK140) : gb150 ≠ gb140));replace BK140 := Am (zU BK140 hb);have NB141_150 := Am ((by rw [hg]; exact Nat.ne_of_lt (zL BK141) : gb141 ≠ gb150));have NB150_141 := Am ((by rw [hg]; exact Nat.ne_of_gt (zL BK141) : gb150 ≠ gb141));replace BK141 := Am (zU BK141 hb);have NB149_150 := Am ((by rw [hg]; exact Nat.ne_of_lt (zL BK149) : gb149 ≠ gb150));have NB150_149 := Am ((by rw [hg]; exact Nat.ne_of_gt (zL BK149) : gb150 ≠ gb149));replace BK149 := Am (zU BK149 hb); clear hb hbox hg; have hnb62 := NB149_140.out; have hnc62 := NB140_149.out; have hnb63 := NB149_141.out; have hnc63 := NB141_149.out; have hnb64 := NB149_150.out; have hnc64 := NB150_149.out; obtain ⟨hcz65_0, hcz65_1, hcz65_2, hfz65_0, hfz65_1, hfz65_2⟩ := zc3 BK149; have hnb66 := NB150_140.out; have hnc66 := NB140_150.out; have hnb67 := NB150_141.out; have hnc67 := NB141_150.out; obtain ⟨hcz68_0, hcz68_1, hcz68_2, hfz68_0, hfz68_1, hfz68_2⟩ := zc3 BK150))
               (try simp only [Act.put, zS])
               go_cut [9] (fun v9 wc => ∃ (kq : Nat) (x9_48 : List (S26)), Aside0 (epitomeref12_Of.j4 kq x7_1 x8_1 x9_48 t137 t138 t139 t146 t147 t148 = some (r1, r2)) ∧ Aside0 (kq ≤ kj29) ∧ Aside0 (Kd.Q k26 26 wc w.heap.size (fun k_ => some k_ ≠ ((.slice (some ad132) x8_1.length co52) : Value).ownBlock ∧ some k_ ≠ (v9 : Value).ownBlock ∧ k_ ≠ gb140 ∧ k_ ≠ gb141 ∧ k_ ≠ gb149 ∧ k_ ≠ gb150) (.slice (some ad131) x7_1.length co51) x7_1) ∧ Aside0 (Kd.Q k26 26 wc w.heap.size (fun k_ => some k_ ≠ ((.slice (some ad131) x7_1.length co51) : Value).ownBlock ∧ some k_ ≠ (v9 : Value).ownBlock ∧ k_ ≠ gb140 ∧ k_ ≠ gb141 ∧ k_ ≠ gb149 ∧ k_ ≠ gb150) (.slice (some ad132) x8_1.length co52) x8_1) ∧ Aside0 (Kd.R k26 26 wc w.heap.size (fun k_ => some k_ ≠ ((.slice (some ad131) x7_1.length co51) : Value).ownBlock ∧ some k_ ≠ ((.slice (some ad132) x8_1.length co52) : Value).ownBlock ∧ k_ ≠ gb140 ∧ k_ ≠ gb141 ∧ k_ ≠ gb149 ∧ k_ ≠ gb150) v9 x9_48) ∧ Aside0 (wc.heap[gb140]? = some (.cells #[.int .i64 t134, .int .i64 t135, .string t136] 26 (0, 0))) ∧ Aside0 (wc.heap[gb141]? = some (.cells #[.int .i64 t137, .int .i64 t138, .string t139] 26 (0, 0))) ∧ Aside0 (wc.heap[gb149]? = some (.cells #[.int .i64 t143, .int .i64 t144, .string t145] 26 (0, 0))) ∧ Aside0 (wc.heap[gb150]? = some (.cells #[.int .i64 t146, .int .i64 t147, .string t148] 26 (0, 0))) ∧ Aside0 (Below w.heap.size w wc))
               case first =>
                have H := HC49.out;clear HC49;by_cases c69 : t143 = 1
                ·rw [if_pos c69] at H;have c69b0 : (t143 == 1) = true := beq_iff_eq.mpr c69
                 have c69b1 : (t143 != 1) = false := bne_eq_false_iff_eq.mpr c69
                 clear c69;(first | rw [c69b0] | (simp only [i64_w, i32_w]; rw [c69b0]) | skip)
                 by_cases c70 : x9_1.length < 4398046511104
                 ·rw [if_pos c70] at H;have LMc70 := Am c70;clear c70;obtain ⟨y151, hy151⟩ : ∃ y_ : List (S26), y_ = (x9_1 ++ [(⟨t134, t135, t136⟩ : S26)]) := ⟨_, rfl⟩
                  replace H : (epitomeref12_Of.j4 kj29 x7_1 x8_1 y151 t137 t138 t139 t146 t147 t148) = some (r1, r2) := by first | (rw [hy151]; with_reducible exact H) | (have H2_ := (Option.bind_some _ _).symm.trans H; rw [hy151]; with_reducible exact H2_) | (have H2_ := (Option.bind_some _ _).symm.trans H; with_reducible exact H2_) | with_reducible exact H | (rw [hy151]; exact H) | exact H
                  have Ny151 := Am hy151;clear hy151;have H' := Am H
                  clear H;have hnb71 := NB140_141.out;have hnc71 := NB141_140.out;have hnb72 := NB140_149.out;have hnc72 := NB149_140.out;have hnb73 := NB140_150.out;have hnc73 := NB150_140.out;obtain ⟨hcz74_0, hcz74_1, hcz74_2, hfz74_0, hfz74_1, hfz74_2⟩ := zc3 BK140;go_wp2_with (first | ((with_reducible refine gate_builtin (b := .append) (xs := #[.tmp 100, .tmp 102]) rfl ?_); (try (refine gate_guard (by rfl) ?_; dsimp only)); at_builtin; refine R_append k26 (w0 := w) w.heap.size rfl (.tmp 100) (.tmp 102) 27 26 (.agg #[(.int .i64 0), (.int .i64 0), (.string ⟨#[]⟩)]) 32 rfl Tryd.underlying27 info26 rfl (by decide) (by omega) u9 x9_1 (⟨t134, t135, t136⟩ : S26) [.int .i64 t134, .int .i64 t135, .string t136] (fun k_ => some k_ ≠ (.slice (some ad131) x7_1.length co51 : Value).ownBlock ∧ some k_ ≠ (.slice (some ad132) x8_1.length co52 : Value).ownBlock ∧ k_ ≠ gb140 ∧ k_ ≠ gb141 ∧ k_ ≠ gb149 ∧ k_ ≠ gb150) (fun _ => False) rfl (by first | (go_simp; done) | (go_simp; rfl)) ?aP (fun _ hk => hk.elim) ?aF ?aO ?aB ?aS ?aL ?_; (case aP => exact k26_mkM _ _ _ (⟨t134, t135, t136⟩ : S26)); (case aB => exact (zB HB)); (case aF => exact (fun k_ hk => ⟨Kd.fresh' (Kd.Q_lt (by (with_reducible repeat (first | apply zA.p | apply zA.q | apply zA.r)); exact (Kd.Q_mono (Kd.Q_mono (zX (zX (Kd.Q_mono (Kd.Q_mono HO_7.out (fun k_ hk => (⟨hk, hk.1.2⟩ : _ ∧ k_ ≠ gb149))) (fun k_ hk => (⟨hk, hk.1.2⟩ : _ ∧ k_ ≠ gb150))) gb149 (fun _ hk => hk.1.2) (.int .i64 t143) (.int .i64 t144) (.string t145)) gb150 (fun _ hk => hk.2) (.int .i64 t146) (.int .i64 t147) (.string t148)) (fun _ h_ => h_.1)) (fun _ h_ => h_.1)))) k_ hk, Kd.fresh' (Kd.Q_lt (by (with_reducible repeat (first | apply zA.p | apply zA.q | apply zA.r)); exact (Kd.Q_mono (Kd.Q_mono (zX (zX (Kd.Q_mono (Kd.Q_mono HO_8.out (fun k_ hk => (⟨hk, hk.1.2⟩ : _ ∧ k_ ≠ gb149))) (fun k_ hk => (⟨hk, hk.1.2⟩ : _ ∧ k_ ≠ gb150))) gb149 (fun _ hk => hk.1.2) (.int .i64 t143) (.int .i64 t144) (.string t145)) gb150 (fun _ hk => hk.2) (.int .i64 t146) (.int .i64 t147) (.string t148)) (fun _ h_ => h_.1)) (fun _ h_ => h_.1)))) k_ hk, zm BK140 k_ hk, zm BK141 k_ hk, Kd.freshB (g := gb149) (o := .cells #[.int .i64 t143, .int .i64 t144, .string t145] 26 (0, 0)) (zP BK149) k_ hk, Kd.freshB (g := gb150) (o := .cells #[.int .i64 t146, .int .i64 t147, .string t148] 26 (0, 0)) (zP BK150) k_ hk⟩)); (case aO => exact (by (with_reducible repeat (first | apply zA.a | apply zA.n | apply zA.d)); exact R_mono (zY (zY (R_mono (R_mono HO_9.out (fun k_ hk => (⟨hk, hk.1.2⟩ : _ ∧ k_ ≠ gb149))) (fun k_ hk => (⟨hk, hk.1.2⟩ : _ ∧ k_ ≠ gb150))) gb149 (fun _ hk => hk.1.2) (.int .i64 t143) (.int .i64 t144) (.string t145)) gb150 (fun _ hk => hk.2) (.int .i64 t146) (.int .i64 t147) (.string t148)) (fun _ hk => ⟨hk.1.1.1.1.1.1.1, ⟨hk.1.1.1.1.1.1.2, ⟨hk.1.1.1.1.1.2, ⟨hk.1.1.1.1.2, ⟨hk.1.1.1.2, hk.1.1.2⟩⟩⟩⟩⟩))); (case aS => exact (below_size (zB HB))); (case aL => have := LMc70.out; omega); intro v152 w75 ho hb hg hat; rw [← Ny151.out] at ho; replace HO_7 := Am (Kd.Q_after (ok := (fun k_ => some k_ ≠ (.slice (some ad132) x8_1.length co52 : Value).ownBlock ∧ k_ ≠ gb140 ∧ k_ ≠ gb141 ∧ k_ ≠ gb149 ∧ k_ ≠ gb150)) (by (with_reducible repeat (first | apply zA.p | apply zA.q | apply zA.r)); exact Kd.Q_mono (zX (zX (Kd.Q_mono (Kd.Q_mono HO_7.out (fun k_ hk => (⟨hk, hk.1.2⟩ : _ ∧ k_ ≠ gb149))) (fun k_ hk => (⟨hk, hk.1.2⟩ : _ ∧ k_ ≠ gb150))) gb149 (fun _ hk => hk.1.2) (.int .i64 t143) (.int .i64 t144) (.string t145)) gb150 (fun _ hk => hk.2) (.int .i64 t146) (.int .i64 t147) (.string t148)) (fun _ hk => ⟨⟨hk.1.1.1.1.1.1.1, ⟨hk.1.1.1.1.1.2, ⟨hk.1.1.1.1.2, ⟨hk.1.1.1.2, hk.1.1.2⟩⟩⟩⟩, hk.1.1.1.1.1.1.2⟩)) hg hat);replace HO_8 := Am (Kd.Q_after (ok := (fun k_ => some k_ ≠ (.slice (some ad131) x7_1.length co51 : Value).ownBlock ∧ k_ ≠ gb140 ∧ k_ ≠ gb141 ∧ k_ ≠ gb149 ∧ k_ ≠ gb150)) (by (with_reducible repeat (first | apply zA.p | apply zA.q | apply zA.r)); exact Kd.Q_mono (zX (zX (Kd.Q_mono (Kd.Q_mono HO_8.out (fun k_ hk => (⟨hk, hk.1.2⟩ : _ ∧ k_ ≠ gb149))) (fun k_ hk => (⟨hk, hk.1.2⟩ : _ ∧ k_ ≠ gb150))) gb149 (fun _ hk => hk.1.2) (.int .i64 t143) (.int .i64 t144) (.string t145)) gb150 (fun _ hk => hk.2) (.int .i64 t146) (.int .i64 t147) (.string t148)) (fun _ hk => ⟨⟨hk.1.1.1.1.1.1.1, ⟨hk.1.1.1.1.1.2, ⟨hk.1.1.1.1.2, ⟨hk.1.1.1.2, hk.1.1.2⟩⟩⟩⟩, hk.1.1.1.1.1.1.2⟩)) hg hat);replace BK140 := Am (zW BK140 hg (R_away HO_9.out (fun _ hk => hk.1.1.1.2)));replace BK141 := Am (zW BK141 hg (R_away HO_9.out (fun _ hk => hk.1.1.2)));replace BK149 := Am (blk_grown (g := gb149) (o := .cells #[.int .i64 t143, .int .i64 t144, .string t145] 26 (0, 0)) (zP BK149) hg (R_away HO_9.out (fun _ hk => hk.1.2)));replace BK150 := Am (blk_grown (g := gb150) (o := .cells #[.int .i64 t146, .int .i64 t147, .string t148] 26 (0, 0)) (zP BK150) hg (R_away HO_9.out (fun _ hk => hk.2)));replace HB := Am (hb);have HO153 := Am (ho);clear HO_9; clear ho hb hg hat))
                  go_meet
                  case rel => exact ⟨_, (y151), H', ⟨by have := HK1.out; have := HJ11.out; have := HJ17.out; have := HJ29.out; first | omega | exact Nat.le_refl _⟩, ⟨by (with_reducible repeat (first | apply zA.p | apply zA.q | apply zA.r)); exact Kd.Q_mono HO_7.out (fun _ hk => ⟨hk.1.1, ⟨hk.2, ⟨hk.1.2.1, ⟨hk.1.2.2.1, ⟨hk.1.2.2.2.1, hk.1.2.2.2.2⟩⟩⟩⟩⟩)⟩, ⟨by (with_reducible repeat (first | apply zA.p | apply zA.q | apply zA.r)); exact Kd.Q_mono HO_8.out (fun _ hk => ⟨hk.1.1, ⟨hk.2, ⟨hk.1.2.1, ⟨hk.1.2.2.1, ⟨hk.1.2.2.2.1, hk.1.2.2.2.2⟩⟩⟩⟩⟩)⟩, ⟨(zR HO153)⟩, ⟨(zK BK140)⟩, ⟨(zK BK141)⟩, ⟨(zK BK149)⟩, ⟨(zK BK150)⟩, ⟨(zB HB)⟩⟩
                 ·rw [if_neg c70] at H;exact absurd H (by simp)
                ·rw [if_neg c69] at H;have c69b0 : (t143 == 1) = false := beq_eq_false_iff_ne.mpr c69
                 have c69b1 : (t143 != 1) = true := bne_iff_ne.mpr c69
                 (first | rw [c69b0] | (simp only [i64_w, i32_w]; rw [c69b0]) | skip)
                 have H' := Am H
                 clear H;go_wp2
                 go_meet
                 case rel => exact ⟨_, (x9_1), H', ⟨by have := HK1.out; have := HJ11.out; have := HJ17.out; have := HJ29.out; first | omega | exact Nat.le_refl _⟩, ⟨by (with_reducible repeat (first | apply zA.p | apply zA.q | apply zA.r)); exact Kd.Q_mono (zX (zX (Kd.Q_mono (Kd.Q_mono HO_7.out (fun k_ hk => (⟨hk, hk.1.2⟩ : _ ∧ k_ ≠ gb149))) (fun k_ hk => (⟨hk, hk.1.2⟩ : _ ∧ k_ ≠ gb150))) gb149 (fun _ hk => hk.1.2) (.int .i64 t143) (.int .i64 t144) (.string t145)) gb150 (fun _ hk => hk.2) (.int .i64 t146) (.int .i64 t147) (.string t148)) (fun _ hk => ⟨hk.1.1.1.1.1.1.1, ⟨hk.1.1.1.1.1.1.2, ⟨hk.1.1.1.1.1.2, ⟨hk.1.1.1.1.2, ⟨hk.1.1.1.2, hk.1.1.2⟩⟩⟩⟩⟩)⟩, ⟨by (with_reducible repeat (first | apply zA.p | apply zA.q | apply zA.r)); exact Kd.Q_mono (zX (zX (Kd.Q_mono (Kd.Q_mono HO_8.out (fun k_ hk => (⟨hk, hk.1.2⟩ : _ ∧ k_ ≠ gb149))) (fun k_ hk => (⟨hk, hk.1.2⟩ : _ ∧ k_ ≠ gb150))) gb149 (fun _ hk => hk.1.2) (.int .i64 t143) (.int .i64 t144) (.string t145)) gb150 (fun _ hk => hk.2) (.int .i64 t146) (.int .i64 t147) (.string t148)) (fun _ hk => ⟨hk.1.1.1.1.1.1.1, ⟨hk.1.1.1.1.1.1.2, ⟨hk.1.1.1.1.1.2, ⟨hk.1.1.1.1.2, ⟨hk.1.1.1.2, hk.1.1.2⟩⟩⟩⟩⟩)⟩, ⟨by (with_reducible repeat (first | apply zA.a | apply zA.n | apply zA.d)); exact R_mono (zY (zY (R_mono (R_mono HO_9.out (fun k_ hk => (⟨hk, hk.1.2⟩ : _ ∧ k_ ≠ gb149))) (fun k_ hk => (⟨hk, hk.1.2⟩ : _ ∧ k_ ≠ gb150))) gb149 (fun _ hk => hk.1.2) (.int .i64 t143) (.int .i64 t144) (.string t145)) gb150 (fun _ hk => hk.2) (.int .i64 t146) (.int .i64 t147) (.string t148)) (fun _ hk => ⟨hk.1.1.1.1.1.1.1, ⟨hk.1.1.1.1.1.1.2, ⟨hk.1.1.1.1.1.2, ⟨hk.1.1.1.1.2, ⟨hk.1.1.1.2, hk.1.1.2⟩⟩⟩⟩⟩)⟩, ⟨(zK BK140)⟩, ⟨(zK BK141)⟩, ⟨(zP BK149)⟩, ⟨(zP BK150)⟩, ⟨(zB HB)⟩⟩
               case rest =>
                clear HC49;(try clear c1);(try clear p1);(try clear q1);(try clear hx1);(try clear qi1);(try clear c2);(try clear p2);(try clear q2);(try clear c3);(try clear c4);(try clear c4b0);(try clear c4b1);(try clear q4);(try clear c5);(try clear c6);(try clear c7);(try clear p11);(try clear q11);(try clear hx11);(try clear qi11);(try clear p12);(try clear q12);(try clear hx12);(try clear qi12);(try clear c13);(try clear c13b0);(try clear c13b1);(try clear p13);(try clear q13);(try clear hx13);(try clear qi13);(try clear p14);(try clear q14);(try clear hx14);(try clear qi14);(try clear c17);(try clear c19);(try clear c19b0);(try clear c19b1);(try clear c20);(try clear c20b0);(try clear c20b1);(try clear c21);(try clear c23);(try clear c24);(try clear c24b0);(try clear c24b1);(try clear c25);(try clear c26);(try clear c26b0);(try clear c26b1);(try clear c29);(try clear q29);(try clear c31);(try clear c31b0);(try clear c31b1);(try clear c32);(try clear c32b0);(try clear c32b1);(try clear c35);(try clear c36);(try clear c36b0);(try clear c36b1);(try clear c38);(try clear c39);(try clear c39b0);(try clear c39b1);(try clear c43);(try clear q43);(try clear c44);(try clear c44b0);(try clear c44b1);(try clear c45);(try clear c45b0);(try clear c45b1);(try clear c56);(try clear c60);(try clear c61);(try clear c62);(try clear c63);(try clear c64);(try clear c66);(try clear c67);(try clear c69);(try clear c69b0);(try clear c69b1);(try clear c70);(try clear c71);(try clear c72);(try clear c73);(try clear hcz57_0);(try clear hcz57_1);(try clear hcz57_2);(try clear hcz58_0);(try clear hcz58_1);(try clear hcz58_2);(try clear hcz65_0);(try clear hcz65_1);(try clear hcz65_2);(try clear hcz68_0);(try clear hcz68_1);(try clear hcz68_2);(try clear hcz74_0);(try clear hcz74_1);(try clear hcz74_2);(try clear hfz57_0);(try clear hfz57_1);(try clear hfz57_2);(try clear hfz58_0);(try clear hfz58_1);(try clear hfz58_2);(try clear hfz65_0);(try clear hfz65_1);(try clear hfz65_2);(try clear hfz68_0);(try clear hfz68_1);(try clear hfz68_2);(try clear hfz74_0);(try clear hfz74_1);(try clear hfz74_2);(try clear hx114_0);(try clear hx114_1);(try clear hx114_2);(try clear hx115_0);(try clear hx115_1);(try clear hx115_2);(try clear hx122_0);(try clear hx122_1);(try clear hx122_2);(try clear hx123_0);(try clear hx123_1);(try clear hx123_2);(try clear hx131_0);(try clear hx131_1);(try clear hx131_2);(try clear hx132_0);(try clear hx132_1);(try clear hx132_2);(try clear hx133_0);(try clear hx133_1);(try clear hx133_2);(try clear hx142_0);(try clear hx142_1);(try clear hx142_2);(try clear p1);(try clear p11);(try clear p114);(try clear p115);(try clear p12);(try clear p122);(try clear p123);(try clear p131);(try clear p132);(try clear p133);(try clear p142);(try clear p2);(try clear q1);(try clear q11);(try clear q114);(try clear q115);(try clear q12);(try clear q122);(try clear q123);(try clear q131);(try clear q132);(try clear q133);(try clear q142);(try clear q2);(try clear q29);(try clear q43);obtain ⟨kq, x9_48, HA, HJ48, HO_7, HO_8, HO_9, BK140, BK141, BK149, BK150, HB⟩ := hcut
                cases kq with
                | zero => exact absurd HA.out (by simp [epitomeref12_Of.j4])
                | succ kj48 =>
                 have H := HA.out;clear HA;simp only [epitomeref12_Of.j4] at H
                 obtain ⟨y154, hy154⟩ : ∃ y_ : List (S26), y_ = (([(⟨t137, t138, t139⟩ : S26)] : List (S26))) := ⟨_, rfl⟩
                 replace H : (if 1 ≤ (x7_1.length : Int) then ((some (x7_1.drop 1 : List (S26))).bind fun y157 => (if y154.length + y157.length < 4398046511104 then ((some (y154 ++ y157 : List (S26))).bind fun y161 => ((some (([(⟨t146, t147, t148⟩ : S26)] : List (S26)) : List (S26))).bind fun y164 => (if 1 ≤ (x8_1.length : Int) then ((some (x8_1.drop 1 : List (S26))).bind fun y167 => (if y164.length + y167.length < 4398046511104 then ((some (y164 ++ y167 : List (S26))).bind fun y171 => (if t138 = 0 then (if 1 ≤ (y161.length : Int) then ((some (y161.drop (1 : Int).toNat : List (S26))).bind fun y174 => (if t147 = 0 then (if 1 ≤ (y171.length : Int) then (epitomeref12_Of.l0 kj48 y174 (y171.drop (1 : Int).toNat) x9_48) else (none)) else (epitomeref12_Of.l0 kj48 y174 y171 x9_48))) else (none)) else (if t147 = 0 then (if 1 ≤ (y171.length : Int) then (epitomeref12_Of.l0 kj48 y161 (y171.drop (1 : Int).toNat) x9_48) else (none)) else (epitomeref12_Of.l0 kj48 y161 y171 x9_48)))) else (none))) else (none)))) else (none))) else (none)) = some (r1, r2) := by first | (rw [hy154]; with_reducible exact H) | (have H2_ := (Option.bind_some _ _).symm.trans H; rw [hy154]; with_reducible exact H2_) | (have H2_ := (Option.bind_some _ _).symm.trans H; with_reducible exact H2_) | with_reducible exact H | (rw [hy154]; exact H) | exact H
                 have Ny154 := Am hy154;clear hy154;by_cases c76 : 1 ≤ (x7_1.length : Int)
                 ·rw [if_pos c76] at H;have c76b0 := eq_true c76
                  have c76b1 : decide (1 ≤ (x7_1.length : Int)) = true := decide_eq_true c76
                  clear c76;obtain ⟨y157, hy157⟩ : ∃ y_ : List (S26), y_ = (x7_1.drop 1) := ⟨_, rfl⟩
                  replace H : (if y154.length + y157.length < 4398046511104 then ((some (y154 ++ y157 : List (S26))).bind fun y161 => ((some (([(⟨t146, t147, t148⟩ : S26)] : List (S26)) : List (S26))).bind fun y164 => (if 1 ≤ (x8_1.length : Int) then ((some (x8_1.drop 1 : List (S26))).bind fun y167 => (if y164.length + y167.length < 4398046511104 then ((some (y164 ++ y167 : List (S26))).bind fun y171 => (if t138 = 0 then (if 1 ≤ (y161.length : Int) then ((some (y161.drop (1 : Int).toNat : List (S26))).bind fun y174 => (if t147 = 0 then (if 1 ≤ (y171.length : Int) then (epitomeref12_Of.l0 kj48 y174 (y171.drop (1 : Int).toNat) x9_48) else (none)) else (epitomeref12_Of.l0 kj48 y174 y171 x9_48))) else (none)) else (if t147 = 0 then (if 1 ≤ (y171.length : Int) then (epitomeref12_Of.l0 kj48 y161 (y171.drop (1 : Int).toNat) x9_48) else (none)) else (epitomeref12_Of.l0 kj48 y161 y171 x9_48)))) else (none))) else (none)))) else (none)) = some (r1, r2) := by first | (rw [hy157]; with_reducible exact H) | (have H2_ := (Option.bind_some _ _).symm.trans H; rw [hy157]; with_reducible exact H2_) | (have H2_ := (Option.bind_some _ _).symm.trans H; with_reducible exact H2_) | with_reducible exact H | (rw [hy157]; exact H) | exact H
                  have Ny157 := Am hy157;clear hy157;by_cases c77 : y154.length + y157.length < 4398046511104
                  ·rw [if_pos c77] at H;have LMc77 := Am c77;clear c77;obtain ⟨y161, hy161⟩ : ∃ y_ : List (S26), y_ = (y154 ++ y157) := ⟨_, rfl⟩
                   replace H : ((some (([(⟨t146, t147, t148⟩ : S26)] : List (S26)) : List (S26))).bind fun y164 => (if 1 ≤ (x8_1.length : Int) then ((some (x8_1.drop 1 : List (S26))).bind fun y167 => (if y164.length + y167.length < 4398046511104 then ((some (y164 ++ y167 : List (S26))).bind fun y171 => (if t138 = 0 then (if 1 ≤ (y161.length : Int) then ((some (y161.drop (1 : Int).toNat : List (S26))).bind fun y174 => (if t147 = 0 then (if 1 ≤ (y171.length : Int) then (epitomeref12_Of.l0 kj48 y174 (y171.drop (1 : Int).toNat) x9_48) else (none)) else (epitomeref12_Of.l0 kj48 y174 y171 x9_48))) else (none)) else (if t147 = 0 then (if 1 ≤ (y171.length : Int) then (epitomeref12_Of.l0 kj48 y161 (y171.drop (1 : Int).toNat) x9_48) else (none)) else (epitomeref12_Of.l0 kj48 y161 y171 x9_48)))) else (none))) else (none))) = some (r1, r2) := by first | (rw [hy161]; with_reducible exact H) | (have H2_ := (Option.bind_some _ _).symm.trans H; rw [hy161]; with_reducible exact H2_) | (have H2_ := (Option.bind_some _ _).symm.trans H; with_reducible exact H2_) | with_reducible exact H | (rw [hy161]; exact H) | exact H
                   have Ny161 := Am hy161;clear hy161;obtain ⟨y164, hy164⟩ : ∃ y_ : List (S26), y_ = (([(⟨t146, t147, t148⟩ : S26)] : List (S26))) := ⟨_, rfl⟩
                   replace H : (if 1 ≤ (x8_1.length : Int) then ((some (x8_1.drop 1 : List (S26))).bind fun y167 => (if y164.length + y167.length < 4398046511104 then ((some (y164 ++ y167 : List (S26))).bind fun y171 => (if t138 = 0 then (if 1 ≤ (y161.length : Int) then ((some (y161.drop (1 : Int).toNat : List (S26))).bind fun y174 => (if t147 = 0 then (if 1 ≤ (y171.length : Int) then (epitomeref12_Of.l0 kj48 y174 (y171.drop (1 : Int).toNat) x9_48) else (none)) else (epitomeref12_Of.l0 kj48 y174 y171 x9_48))) else (none)) else (if t147 = 0 then (if 1 ≤ (y171.length : Int) then (epitomeref12_Of.l0 kj48 y161 (y171.drop (1 : Int).toNat) x9_48) else (none)) else (epitomeref12_Of.l0 kj48 y161 y171 x9_48)))) else (none))) else (none)) = some (r1, r2) := by first | (rw [hy164]; with_reducible exact H) | (have H2_ := (Option.bind_some _ _).symm.trans H; rw [hy164]; with_reducible exact H2_) | (have H2_ := (Option.bind_some _ _).symm.trans H; with_reducible exact H2_) | with_reducible exact H | (rw [hy164]; exact H) | exact H
                   have Ny164 := Am hy164;clear hy164;by_cases c78 : 1 ≤ (x8_1.length : Int)
                   ·rw [if_pos c78] at H;have c78b0 := eq_true c78
                    have c78b1 : decide (1 ≤ (x8_1.length : Int)) = true := decide_eq_true c78
                    clear c78;obtain ⟨y167, hy167⟩ : ∃ y_ : List (S26), y_ = (x8_1.drop 1) := ⟨_, rfl⟩
                    replace H : (if y164.length + y167.length < 4398046511104 then ((some (y164 ++ y167 : List (S26))).bind fun y171 => (if t138 = 0 then (if 1 ≤ (y161.length : Int) then ((some (y161.drop (1 : Int).toNat : List (S26))).bind fun y174 => (if t147 = 0 then (if 1 ≤ (y171.length : Int) then (epitomeref12_Of.l0 kj48 y174 (y171.drop (1 : Int).toNat) x9_48) else (none)) else (epitomeref12_Of.l0 kj48 y174 y171 x9_48))) else (none)) else (if t147 = 0 then (if 1 ≤ (y171.length : Int) then (epitomeref12_Of.l0 kj48 y161 (y171.drop (1 : Int).toNat) x9_48) else (none)) else (epitomeref12_Of.l0 kj48 y161 y171 x9_48)))) else (none)) = some (r1, r2) := by first | (rw [hy167]; with_reducible exact H) | (have H2_ := (Option.bind_some _ _).symm.trans H; rw [hy167]; with_reducible exact H2_) | (have H2_ := (Option.bind_some _ _).symm.trans H; with_reducible exact H2_) | with_reducible exact H | (rw [hy167]; exact H) | exact H
                    have Ny167 := Am hy167;clear hy167;by_cases c79 : y164.length + y167.length < 4398046511104
                    ·rw [if_pos c79] at H;have LMc79 := Am c79;clear c79;obtain ⟨y171, hy171⟩ : ∃ y_ : List (S26), y_ = (y164 ++ y167) := ⟨_, rfl⟩
                     replace H : (if t138 = 0 then (if 1 ≤ (y161.length : Int) then ((some (y161.drop (1 : Int).toNat : List (S26))).bind fun y174 => (if t147 = 0 then (if 1 ≤ (y171.length : Int) then (epitomeref12_Of.l0 kj48 y174 (y171.drop (1 : Int).toNat) x9_48) else (none)) else (epitomeref12_Of.l0 kj48 y174 y171 x9_48))) else (none)) else (if t147 = 0 then (if 1 ≤ (y171.length : Int) then (epitomeref12_Of.l0 kj48 y161 (y171.drop (1 : Int).toNat) x9_48) else (none)) else (epitomeref12_Of.l0 kj48 y161 y171 x9_48))) = some (r1, r2) := by first | (rw [hy171]; with_reducible exact H) | (have H2_ := (Option.bind_some _ _).symm.trans H; rw [hy171]; with_reducible exact H2_) | (have H2_ := (Option.bind_some _ _).symm.trans H; with_reducible exact H2_) | with_reducible exact H | (rw [hy171]; exact H) | exact H
                     have Ny171 := Am hy171;clear hy171;have HH_ := Am H;clear H;try go_wp2
                     replace HO_7 := Am (Kd.Q_drew HO_7.out);replace HO_8 := Am (Kd.Q_drew HO_8.out);replace HO_9 := Am (R_drew HO_9.out);replace BK140 := Am (blk_drew BK140.out);replace BK141 := Am (blk_drew BK141.out);replace BK149 := Am (blk_drew BK149.out);replace BK150 := Am (blk_drew BK150.out);replace HB := Am (below_drew1 HB.out);have q85 : (1 : Int) ≤ ((x7_1.length : Int) : Int) := of_decide_eq_true (by assumption)
                     obtain ⟨i085, hi085, _, hsz85, _⟩ := info_parts info26
                     have hroom85 : x7_1.length ≤ co51 := (Kd.Q_reads' HO_7.out).2.1
                     have hC85 : Kd.C k26 _ (some ad131) x7_1.length x7_1 := (Kd.Q_reads' HO_7.out).2.2
                     have hcut85 := cut_from (P := Tryd.prog) 27 26 .i64 Tryd.underlying27 hi085 3 hsz85 (some ad131) x7_1.length co51 1 (by omega) q85
                     have hr85 := C_drop (m := (1 : Int).toNat) (c := co51) hC85 (by omega) hroom85
                     obtain ⟨A85, hA85⟩ : ∃ A1, A1 = (if co51 = (1 : Int).toNat then (some ad131) else ((some ad131) : Option Addr).map (·.add ((1 : Int).toNat * 3))) := ⟨_, rfl⟩
                     obtain ⟨c85, hc85⟩ : ∃ c1, c1 = co51 - (1 : Int).toNat := ⟨_, rfl⟩
                     have hy85 : y157.length = x7_1.length - (1 : Int).toNat := (by rw [Ny157.out, List.length_drop] <;> omega)
                     rw [show (x7_1).drop (1 : Int).toNat = y157 from Ny157.out.symm] at hr85
                     replace hr85 : Kd.C k26 _ A85 y157.length y157 := (by rw [hA85]; exact hr85)
                     rw [← hy85, ← hA85, ← hc85] at hcut85
                     have HR160 := Am hr85;have HC160 := Am (show y157.length ≤ c85 from by rw [hy85, hc85]; exact Nat.sub_le_sub_right hroom85 _)
                     clear hr85 hC85 hroom85 hi085 hsz85 hc85;have KY85 := Am hy85;have KA85 := Am hA85;clear hy85 hA85;have KL85 := Am (show 1 ≤ x7_1.length from by omega)
                     replace q85 := eq_true q85;refine start_ (n := 6) (S := fun w' => w'.cell? ⟨gb141, 0, none⟩ = some (.int .i64 t137) ∧ w'.cell? ⟨gb141, 1, none⟩ = some (.int .i64 t138) ∧ w'.cell? ⟨gb141, 2, none⟩ = some (.string t139)) (ds := []) #[false, false, false, false, false, false] (by kernel_rfl) rfl rfl ⟨(blk_cell BK141.out 0).trans rfl, (blk_cell BK141.out 1).trans rfl, (blk_cell BK141.out 2).trans rfl⟩ (fun hHeld => ?_)
                     generalize wc.drew = w84 at HO_7 HO_8 HO_9 BK140 BK141 BK149 BK150 HB HR160 hHeld ⊢
                     refine pure_ (i := 2) (N := some 106) (v := ?_) (a' := ?_) #[false, false, true, false, false, false] rfl rfl (by kernel_rfl) (fun _ _ _ h => h) (Or.inl ⟨by rfl, ?_⟩) ?_ ?_
                     rotate_left
                     ·intro w'
                      go_simp;with_reducible rfl
                     rotate_left
                     ·simp only [Act.put, zS, i64_w, i32_w]
                      rfl
                     refine pure_ (i := 3) (N := some 107) (v := ?_) (a' := ?_) #[false, false, true, true, false, false] rfl rfl (by kernel_rfl) (fun _ _ _ h => h) (Or.inl ⟨by rfl, ?_⟩) ?_ ?_
                     rotate_left
                     ·intro w'
                      go_simp;with_reducible rfl
                     rotate_left
                     ·simp only [Act.put, zS, i64_w, i32_w]
                      rfl
                     refine take_ (i := 0) (N := some 104) (v := ?_) (a' := ?_) #[true, false, true, true, false, false] rfl rfl (by kernel_rfl) (fun _ _ _ h => h) (Or.inl ⟨by rfl, ?_⟩) hHeld ?_ ?_
                     rotate_left
                     ·rintro w' ⟨s0, s1, s2⟩
                      go_simp;with_reducible rfl
                     rotate_left
                     ·simp only [Act.put, zS, i64_w, i32_w]
                      rfl
                     refine one_ (i := 1) (N := some 105) #[true, true, true, true, false, false] rfl rfl (by kernel_rfl) (by decide) (fun K hK => ?_)
                     refine R_lit_step k26 _ 26 ?hg (N := 105) ?hd (xs := ([(⟨t137, t138, t139⟩ : S26)] : List (S26))) (inner := [.int .i64 t137, .int .i64 t138, .string t139]) (ok := fun _ => True) (okp := fun _ => True) ?hr ?hp (fun _ hk => hk) trivial (Below.refl _ _) (Nat.le_refl _) (by simp) ?_; (case hd => rfl); (case hg => rfl); (case hr => first | (go_simp; done) | (go_simp; rfl)); (case hp => exact (Reps.c3 (show Kd.M k26 _ _ _ (⟨t137, t138, t139⟩ : S26) [.int .i64 t137, .int .i64 t138, .string t139] from (k26_mkM _ _ _ (⟨t137, t138, t139⟩ : S26) )) (Reps.none _ _)))
                     intro v155 w86 ho87 hb hg_ hnew_;clear hg_ hnew_;(first | rw [← Ny154.out] at ho87 | (simp only [Int.reduceToNat] at ho87; rw [← Ny154.out] at ho87))
                     have HO156 := Am (R_lower (R_newB (R_newB (R_newB (R_newB (R_new' (R_new' (R_new' ho87 (Kd.Q_lt (zQ HO_7))) (Kd.Q_lt (zQ HO_8))) (R_lt (zR HO_9))) (g := gb140) (o := .cells #[.int .i64 t134, .int .i64 t135, .string t136] 26 (0, 0)) (zK BK140)) (g := gb141) (o := .cells #[.int .i64 t137, .int .i64 t138, .string t139] 26 (0, 0)) (zK BK141)) (g := gb149) (o := .cells #[.int .i64 t143, .int .i64 t144, .string t145] 26 (0, 0)) (zK BK149)) (g := gb150) (o := .cells #[.int .i64 t146, .int .i64 t147, .string t148] 26 (0, 0)) (zK BK150)) (below_size (zB HB)));replace HO_7 := Am (Kd.Q_elder' (zQ HO_7) (R_base ho87) hb);replace HO_8 := Am (Kd.Q_elder' (zQ HO_8) (R_base ho87) hb);replace HO_9 := Am (zr HO_9 ho87 hb);replace BK140 := Am (zU BK140 hb);replace BK141 := Am (zU BK141 hb);replace BK149 := Am (zU BK149 hb);replace BK150 := Am (zU BK150 hb);replace HR160 := Am (C_below (zJ HR160.out) hb);replace HB := Am (below_step (zB HB) hb);clear hb ho87;refine hK.out _ _ ⟨(blk_cell BK141.out 0).trans rfl, (blk_cell BK141.out 1).trans rfl, (blk_cell BK141.out 2).trans rfl⟩ (fun hHeld => ?_)
                     clear hK K;refine norm_ (a' := ?_) ?_ ?_
                     rotate_left
                     ·show Act.put _ (some 105) _ = _
                      simp only [Act.put, zS, i64_w, i32_w]
                      rfl
                     refine one_ (i := 4) (N := some 108) #[true, true, true, true, true, false] rfl rfl (by kernel_rfl) (by decide) (fun K hK => ?_)
                     refine R_append_rows_step k26 (w0 := w) w.heap.size (by rfl) (.tmp 105) (.tmp 107) 27 26 (.agg #[(.int .i64 0), (.int .i64 0), (.string ⟨#[]⟩)]) 32 rfl Tryd.underlying27 info26 rfl (by decide) (by omega) v155 y154 y157 _ _ _ (fun k_ => some k_ ≠ (.slice (some ad131) x7_1.length co51 : Value).ownBlock ∧ some k_ ≠ (.slice (some ad132) x8_1.length co52 : Value).ownBlock ∧ some k_ ≠ (u9 : Value).ownBlock ∧ k_ ≠ gb140 ∧ k_ ≠ gb141 ∧ k_ ≠ gb149 ∧ k_ ≠ gb150) (fun _ => False) rfl rfl ?aO ?aR (fun _ _ h => h) (fun _ h => h.elim) ?aF ?aB ?aS ?aL ?_
                     (case aR => repeat (first | exact (zJ HR160.out) | (with_reducible refine C_alloc ?_ _) | (with_reducible refine C_drewN ?_ _) | (with_reducible refine C_drew ?_)))
                     (case aB => exact (zB HB))
                     (case aF => exact (fun k_ hk => ⟨Kd.fresh' (Kd.Q_lt (zQ HO_7)) k_ hk, Kd.fresh' (Kd.Q_lt (zQ HO_8)) k_ hk, Kd.fresh' (R_lt (zR HO_9)) k_ hk, zm BK140 k_ hk, zm BK141 k_ hk, zm BK149 k_ hk, zm BK150 k_ hk⟩))
                     (case aO => exact (by (with_reducible repeat (first | apply zA.a | apply zA.n | apply zA.d)); exact R_mono HO156.out (fun _ hk => ⟨hk.1.1.1.1.1.1.2, ⟨hk.1.1.1.1.1.2, ⟨hk.1.1.1.1.2, ⟨hk.1.1.1.2, ⟨hk.1.1.2, ⟨hk.1.2, hk.2⟩⟩⟩⟩⟩⟩)))
                     (case aS => exact (below_size (zB HB)))
                     (case aL => have := LMc77.out; omega)
                     intro v162 w88 ho hb hg hat;rw [← Ny161.out] at ho
                     replace HO_7 := Am (Kd.Q_after (ok := (fun k_ => some k_ ≠ (.slice (some ad132) x8_1.length co52 : Value).ownBlock ∧ some k_ ≠ (u9 : Value).ownBlock ∧ k_ ≠ gb140 ∧ k_ ≠ gb141 ∧ k_ ≠ gb149 ∧ k_ ≠ gb150)) (zQ HO_7) hg hat);replace HO_8 := Am (Kd.Q_after (ok := (fun k_ => some k_ ≠ (.slice (some ad131) x7_1.length co51 : Value).ownBlock ∧ some k_ ≠ (u9 : Value).ownBlock ∧ k_ ≠ gb140 ∧ k_ ≠ gb141 ∧ k_ ≠ gb149 ∧ k_ ≠ gb150)) (zQ HO_8) hg hat);replace HO_9 := Am (R_after (ok := (fun k_ => some k_ ≠ (.slice (some ad131) x7_1.length co51 : Value).ownBlock ∧ some k_ ≠ (.slice (some ad132) x8_1.length co52 : Value).ownBlock ∧ k_ ≠ gb140 ∧ k_ ≠ gb141 ∧ k_ ≠ gb149 ∧ k_ ≠ gb150)) (zR HO_9) hg hat);replace BK140 := Am (zW BK140 hg (R_away HO156.out (fun _ hk => hk.1.1.1.2)));replace BK141 := Am (zW BK141 hg (R_away HO156.out (fun _ hk => hk.1.1.2)));replace BK149 := Am (zW BK149 hg (R_away HO156.out (fun _ hk => hk.1.2)));replace BK150 := Am (zW BK150 hg (R_away HO156.out (fun _ hk => hk.2)));replace HB := Am (hb);replace HR160 := Am ((show Kd.C k26 w88 A85 y157.length y157 from by rw [Ny157.out, KA85.out]; exact C_drop (m := 1) (c := co51) ((Kd.Q_reads' HO_7.out).2.2) KL85.out ((Kd.Q_reads' HO_7.out).2.1)));have HO163 := Am (ho);clear HO156 ho hb hg hat;refine hK.out _ _ ⟨(blk_cell BK141.out 0).trans rfl, (blk_cell BK141.out 1).trans rfl, (blk_cell BK141.out 2).trans rfl⟩ (fun hHeld => ?_)
                     clear hK K;refine norm_ (a' := ?_) ?_ ?_
                     rotate_left
                     ·show Act.put _ (some 108) _ = _
                      simp only [Act.put, zS, i64_w, i32_w]
                      rfl
                     refine pure_ (i := 5) (N := some 7) (v := ?_) (a' := ?_) #[true, true, true, true, true, true] rfl rfl (by kernel_rfl) (fun _ _ _ h => h) (Or.inl ⟨by rfl, ?_⟩) ?_ ?_
                     rotate_left
                     ·intro w'
                      go_simp;with_reducible rfl
                     rotate_left
                     ·simp only [Act.put, zS, i64_w, i32_w]
                      rfl
                     refine done_ (by kernel_rfl) ?_
                     try go_wp2
                     replace HO_7 := Am (Kd.Q_drew HO_7.out);replace HO_8 := Am (Kd.Q_drew HO_8.out);replace HO_9 := Am (R_drew HO_9.out);replace HO163 := Am (R_drew HO163.out);replace BK140 := Am (blk_drew BK140.out);replace BK141 := Am (blk_drew BK141.out);replace BK149 := Am (blk_drew BK149.out);replace BK150 := Am (blk_drew BK150.out);replace HR160 := Am (C_drew HR160.out);replace HB := Am (below_drew1 HB.out);have q90 : (1 : Int) ≤ ((x8_1.length : Int) : Int) := of_decide_eq_true (by assumption)
                     obtain ⟨i090, hi090, _, hsz90, _⟩ := info_parts info26
                     have hroom90 : x8_1.length ≤ co52 := (Kd.Q_reads' HO_8.out).2.1
                     have hC90 : Kd.C k26 _ (some ad132) x8_1.length x8_1 := (Kd.Q_reads' HO_8.out).2.2
                     have hcut90 := cut_from (P := Tryd.prog) 27 26 .i64 Tryd.underlying27 hi090 3 hsz90 (some ad132) x8_1.length co52 1 (by omega) q90
                     have hr90 := C_drop (m := (1 : Int).toNat) (c := co52) hC90 (by omega) hroom90
                     obtain ⟨A90, hA90⟩ : ∃ A1, A1 = (if co52 = (1 : Int).toNat then (some ad132) else ((some ad132) : Option Addr).map (·.add ((1 : Int).toNat * 3))) := ⟨_, rfl⟩
                     obtain ⟨c90, hc90⟩ : ∃ c1, c1 = co52 - (1 : Int).toNat := ⟨_, rfl⟩
                     have hy90 : y167.length = x8_1.length - (1 : Int).toNat := (by rw [Ny167.out, List.length_drop] <;> omega)
                     rw [show (x8_1).drop (1 : Int).toNat = y167 from Ny167.out.symm] at hr90
                     replace hr90 : Kd.C k26 _ A90 y167.length y167 := (by rw [hA90]; exact hr90)
                     rw [← hy90, ← hA90, ← hc90] at hcut90
                     have HR170 := Am hr90;have HC170 := Am (show y167.length ≤ c90 from by rw [hy90, hc90]; exact Nat.sub_le_sub_right hroom90 _)
                     clear hr90 hC90 hroom90 hi090 hsz90 hc90;have KY90 := Am hy90;have KA90 := Am hA90;clear hy90 hA90;have KL90 := Am (show 1 ≤ x8_1.length from by omega)
                     replace q90 := eq_true q90;refine start_ (n := 6) (S := fun w' => w'.cell? ⟨gb150, 0, none⟩ = some (.int .i64 t146) ∧ w'.cell? ⟨gb150, 1, none⟩ = some (.int .i64 t147) ∧ w'.cell? ⟨gb150, 2, none⟩ = some (.string t148)) (ds := []) #[false, false, false, false, false, false] (by kernel_rfl) rfl rfl ⟨(blk_cell BK150.out 0).trans rfl, (blk_cell BK150.out 1).trans rfl, (blk_cell BK150.out 2).trans rfl⟩ (fun hHeld => ?_)
                     generalize w88.drew = w89 at HO_7 HO_8 HO_9 HO163 BK140 BK141 BK149 BK150 HR160 HB HR170 hHeld ⊢
                     refine pure_ (i := 2) (N := some 111) (v := ?_) (a' := ?_) #[false, false, true, false, false, false] rfl rfl (by kernel_rfl) (fun _ _ _ h => h) (Or.inl ⟨by rfl, ?_⟩) ?_ ?_
                     rotate_left
                     ·intro w'
                      go_simp;with_reducible rfl
                     rotate_left
                     ·simp only [Act.put, zS, i64_w, i32_w]
                      rfl
                     refine pure_ (i := 3) (N := some 112) (v := ?_) (a' := ?_) #[false, false, true, true, false, false] rfl rfl (by kernel_rfl) (fun _ _ _ h => h) (Or.inl ⟨by rfl, ?_⟩) ?_ ?_
                     rotate_left
                     ·intro w'
                      go_simp;with_reducible rfl
                     rotate_left
                     ·simp only [Act.put, zS, i64_w, i32_w]
                      rfl
                     refine take_ (i := 0) (N := some 109) (v := ?_) (a' := ?_) #[true, false, true, true, false, false] rfl rfl (by kernel_rfl) (fun _ _ _ h => h) (Or.inl ⟨by rfl, ?_⟩) hHeld ?_ ?_
                     rotate_left
                     ·rintro w' ⟨s0, s1, s2⟩
                      go_simp;with_reducible rfl
                     rotate_left
                     ·simp only [Act.put, zS, i64_w, i32_w]
                      rfl
                     refine one_ (i := 1) (N := some 110) #[true, true, true, true, false, false] rfl rfl (by kernel_rfl) (by decide) (fun K hK => ?_)
                     refine R_lit_step k26 _ 26 ?hg (N := 110) ?hd (xs := ([(⟨t146, t147, t148⟩ : S26)] : List (S26))) (inner := [.int .i64 t146, .int .i64 t147, .string t148]) (ok := fun _ => True) (okp := fun _ => True) ?hr ?hp (fun _ hk => hk) trivial (Below.refl _ _) (Nat.le_refl _) (by simp) ?_; (case hd => rfl); (case hg => rfl); (case hr => first | (go_simp; done) | (go_simp; rfl)); (case hp => exact (Reps.c3 (show Kd.M k26 _ _ _ (⟨t146, t147, t148⟩ : S26) [.int .i64 t146, .int .i64 t147, .string t148] from (k26_mkM _ _ _ (⟨t146, t147, t148⟩ : S26) )) (Reps.none _ _)))
                     intro v165 w91 ho92 hb hg_ hnew_;clear hg_ hnew_;(first | rw [← Ny164.out] at ho92 | (simp only [Int.reduceToNat] at ho92; rw [← Ny164.out] at ho92))
                     have HO166 := Am (R_lower (R_newB (R_newB (R_newB (R_newB (R_new' (R_new' (R_new' (R_new' ho92 (Kd.Q_lt (zQ HO_7))) (Kd.Q_lt (zQ HO_8))) (R_lt (zR HO_9))) (R_lt (zR HO163))) (g := gb140) (o := .cells #[.int .i64 t134, .int .i64 t135, .string t136] 26 (0, 0)) (zK BK140)) (g := gb141) (o := .cells #[.int .i64 t137, .int .i64 t138, .string t139] 26 (0, 0)) (zK BK141)) (g := gb149) (o := .cells #[.int .i64 t143, .int .i64 t144, .string t145] 26 (0, 0)) (zK BK149)) (g := gb150) (o := .cells #[.int .i64 t146, .int .i64 t147, .string t148] 26 (0, 0)) (zK BK150)) (below_size (zB HB)));replace HO_7 := Am (Kd.Q_elder' (zQ HO_7) (R_base ho92) hb);replace HO_8 := Am (Kd.Q_elder' (zQ HO_8) (R_base ho92) hb);replace HO_9 := Am (zr HO_9 ho92 hb);replace HO163 := Am (zr HO163 ho92 hb);replace BK140 := Am (zU BK140 hb);replace BK141 := Am (zU BK141 hb);replace BK149 := Am (zU BK149 hb);replace BK150 := Am (zU BK150 hb);replace HR160 := Am (C_below (zJ HR160.out) hb);replace HR170 := Am (C_below (zJ HR170.out) hb);replace HB := Am (below_step (zB HB) hb);clear hb ho92;refine hK.out _ _ ⟨(blk_cell BK150.out 0).trans rfl, (blk_cell BK150.out 1).trans rfl, (blk_cell BK150.out 2).trans rfl⟩ (fun hHeld => ?_)
                     clear hK K;refine norm_ (a' := ?_) ?_ ?_
                     rotate_left
                     ·show Act.put _ (some 110) _ = _
                      simp only [Act.put, zS, i64_w, i32_w]
                      rfl
                     refine one_ (i := 4) (N := some 113) #[true, true, true, true, true, false] rfl rfl (by kernel_rfl) (by decide) (fun K hK => ?_)
                     refine R_append_rows_step k26 (w0 := w) w.heap.size (by rfl) (.tmp 110) (.tmp 112) 27 26 (.agg #[(.int .i64 0), (.int .i64 0), (.string ⟨#[]⟩)]) 32 rfl Tryd.underlying27 info26 rfl (by decide) (by omega) v165 y164 y167 _ _ _ (fun k_ => some k_ ≠ (.slice (some ad131) x7_1.length co51 : Value).ownBlock ∧ some k_ ≠ (.slice (some ad132) x8_1.length co52 : Value).ownBlock ∧ some k_ ≠ (u9 : Value).ownBlock ∧ some k_ ≠ (v162 : Value).ownBlock ∧ k_ ≠ gb140 ∧ k_ ≠ gb141 ∧ k_ ≠ gb149 ∧ k_ ≠ gb150) (fun _ => False) rfl rfl ?aO ?aR (fun _ _ h => h) (fun _ h => h.elim) ?aF ?aB ?aS ?aL ?_
                     (case aR => repeat (first | exact (zJ HR170.out) | (with_reducible refine C_alloc ?_ _) | (with_reducible refine C_drewN ?_ _) | (with_reducible refine C_drew ?_)))
                     (case aB => exact (zB HB))
                     (case aF => exact (fun k_ hk => ⟨Kd.fresh' (Kd.Q_lt (zQ HO_7)) k_ hk, Kd.fresh' (Kd.Q_lt (zQ HO_8)) k_ hk, Kd.fresh' (R_lt (zR HO_9)) k_ hk, Kd.fresh' (R_lt (zR HO163)) k_ hk, zm BK140 k_ hk, zm BK141 k_ hk, zm BK149 k_ hk, zm BK150 k_ hk⟩))
                     (case aO => exact (by (with_reducible repeat (first | apply zA.a | apply zA.n | apply zA.d)); exact R_mono HO166.out (fun _ hk => ⟨hk.1.1.1.1.1.1.1.2, ⟨hk.1.1.1.1.1.1.2, ⟨hk.1.1.1.1.1.2, ⟨hk.1.1.1.1.2, ⟨hk.1.1.1.2, ⟨hk.1.1.2, ⟨hk.1.2, hk.2⟩⟩⟩⟩⟩⟩⟩)))
                     (case aS => exact (below_size (zB HB)))
                     (case aL => have := LMc79.out; omega)
                     intro v172 w93 ho hb hg hat;rw [← Ny171.out] at ho
                     replace HO_7 := Am (Kd.Q_after (ok := (fun k_ => some k_ ≠ (.slice (some ad132) x8_1.length co52 : Value).ownBlock ∧ some k_ ≠ (u9 : Value).ownBlock ∧ some k_ ≠ (v162 : Value).ownBlock ∧ k_ ≠ gb140 ∧ k_ ≠ gb141 ∧ k_ ≠ gb149 ∧ k_ ≠ gb150)) (by (with_reducible repeat (first | apply zA.p | apply zA.q | apply zA.r)); exact Kd.Q_mono HO_7.out (fun _ hk => ⟨⟨hk.1.1.1, ⟨hk.1.1.2.1, ⟨hk.1.2, ⟨hk.1.1.2.2.1, ⟨hk.1.1.2.2.2.1, ⟨hk.1.1.2.2.2.2.1, hk.1.1.2.2.2.2.2⟩⟩⟩⟩⟩⟩, hk.2⟩)) hg hat);replace HO_8 := Am (Kd.Q_after (ok := (fun k_ => some k_ ≠ (.slice (some ad131) x7_1.length co51 : Value).ownBlock ∧ some k_ ≠ (u9 : Value).ownBlock ∧ some k_ ≠ (v162 : Value).ownBlock ∧ k_ ≠ gb140 ∧ k_ ≠ gb141 ∧ k_ ≠ gb149 ∧ k_ ≠ gb150)) (by (with_reducible repeat (first | apply zA.p | apply zA.q | apply zA.r)); exact Kd.Q_mono HO_8.out (fun _ hk => ⟨⟨hk.1.1.1, ⟨hk.1.1.2.1, ⟨hk.1.2, ⟨hk.1.1.2.2.1, ⟨hk.1.1.2.2.2.1, ⟨hk.1.1.2.2.2.2.1, hk.1.1.2.2.2.2.2⟩⟩⟩⟩⟩⟩, hk.2⟩)) hg hat);replace HO_9 := Am (R_after (ok := (fun k_ => some k_ ≠ (.slice (some ad131) x7_1.length co51 : Value).ownBlock ∧ some k_ ≠ (.slice (some ad132) x8_1.length co52 : Value).ownBlock ∧ some k_ ≠ (v162 : Value).ownBlock ∧ k_ ≠ gb140 ∧ k_ ≠ gb141 ∧ k_ ≠ gb149 ∧ k_ ≠ gb150)) (by (with_reducible repeat (first | apply zA.a | apply zA.n | apply zA.d)); exact R_mono HO_9.out (fun _ hk => ⟨⟨hk.1.1.1, ⟨hk.1.1.2.1, ⟨hk.1.2, ⟨hk.1.1.2.2.1, ⟨hk.1.1.2.2.2.1, ⟨hk.1.1.2.2.2.2.1, hk.1.1.2.2.2.2.2⟩⟩⟩⟩⟩⟩, hk.2⟩)) hg hat);replace BK140 := Am (zW BK140 hg (R_away HO166.out (fun _ hk => hk.1.1.1.2)));replace BK141 := Am (zW BK141 hg (R_away HO166.out (fun _ hk => hk.1.1.2)));replace BK149 := Am (zW BK149 hg (R_away HO166.out (fun _ hk => hk.1.2)));replace BK150 := Am (zW BK150 hg (R_away HO166.out (fun _ hk => hk.2)));replace HO163 := Am (R_after (ok := (fun k_ => some k_ ≠ (.slice (some ad131) x7_1.length co51 : Value).ownBlock ∧ some k_ ≠ (.slice (some ad132) x8_1.length co52 : Value).ownBlock ∧ some k_ ≠ (u9 : Value).ownBlock ∧ k_ ≠ gb140 ∧ k_ ≠ gb141 ∧ k_ ≠ gb149 ∧ k_ ≠ gb150)) (zR HO163) hg hat);replace HB := Am (hb);replace HR160 := Am ((show Kd.C k26 w93 A85 y157.length y157 from by rw [Ny157.out, KA85.out]; exact C_drop (m := 1) (c := co51) ((Kd.Q_reads' HO_7.out).2.2) KL85.out ((Kd.Q_reads' HO_7.out).2.1)));replace HR170 := Am ((show Kd.C k26 w93 A90 y167.length y167 from by rw [Ny167.out, KA90.out]; exact C_drop (m := 1) (c := co52) ((Kd.Q_reads' HO_8.out).2.2) KL90.out ((Kd.Q_reads' HO_8.out).2.1)));have HO173 := Am (ho);clear HO166 ho hb hg hat;refine hK.out _ _ ⟨(blk_cell BK150.out 0).trans rfl, (blk_cell BK150.out 1).trans rfl, (blk_cell BK150.out 2).trans rfl⟩ (fun hHeld => ?_)
                     clear hK K;refine norm_ (a' := ?_) ?_ ?_
                     rotate_left
                     ·show Act.put _ (some 113) _ = _
                      simp only [Act.put, zS, i64_w, i32_w]
                      rfl
                     refine pure_ (i := 5) (N := some 8) (v := ?_) (a' := ?_) #[true, true, true, true, true, true] rfl rfl (by kernel_rfl) (fun _ _ _ h => h) (Or.inl ⟨by rfl, ?_⟩) ?_ ?_
                     rotate_left
                     ·intro w'
                      go_simp;with_reducible rfl
                     rotate_left
                     ·simp only [Act.put, zS, i64_w, i32_w]
                      rfl
                     refine done_ (by kernel_rfl) ?_
                     have H := HH_.out;clear HH_;by_cases c80 : t138 = 0
                     ·rw [if_pos c80] at H;have c80b0 : (t138 == 0) = true := beq_iff_eq.mpr c80
                      have c80b1 : (t138 != 0) = false := bne_eq_false_iff_eq.mpr c80
                      clear c80;by_cases c81 : 1 ≤ (y161.length : Int)
                      ·rw [if_pos c81] at H;have c81b0 := eq_true c81
                       have c81b1 : decide (1 ≤ (y161.length : Int)) = true := decide_eq_true c81
                       clear c81;obtain ⟨y174, hy174⟩ : ∃ y_ : List (S26), y_ = (y161.drop (1 : Int).toNat) := ⟨_, rfl⟩
                       replace H : (if t147 = 0 then (if 1 ≤ (y171.length : Int) then (epitomeref12_Of.l0 kj48 y174 (y171.drop (1 : Int).toNat) x9_48) else (none)) else (epitomeref12_Of.l0 kj48 y174 y171 x9_48)) = some (r1, r2) := by first | (rw [hy174]; with_reducible exact H) | (have H2_ := (Option.bind_some _ _).symm.trans H; rw [hy174]; with_reducible exact H2_) | (have H2_ := (Option.bind_some _ _).symm.trans H; with_reducible exact H2_) | with_reducible exact H | (rw [hy174]; exact H) | exact H
                       have Ny174 := Am hy174;clear hy174;by_cases c82 : t147 = 0
                       ·rw [if_pos c82] at H;have c82b0 : (t147 == 0) = true := beq_iff_eq.mpr c82
                        have c82b1 : (t147 != 0) = false := bne_eq_false_iff_eq.mpr c82
                        clear c82;by_cases c83 : 1 ≤ (y171.length : Int)
                        ·rw [if_pos c83] at H;have c83b0 := eq_true c83
                         have c83b1 : decide (1 ≤ (y171.length : Int)) = true := decide_eq_true c83
                         clear c83;obtain ⟨y177, hy177⟩ : ∃ y_ : List (S26), y_ = (y171.drop (1 : Int).toNat) := ⟨_, rfl⟩
                         replace H : (epitomeref12_Of.l0 kj48 y174 y177 x9_48) = some (r1, r2) := by first | (rw [hy177]; with_reducible exact H) | (have H2_ := (Option.bind_some _ _).symm.trans H; rw [hy177]; with_reducible exact H2_) | (have H2_ := (Option.bind_some _ _).symm.trans H; with_reducible exact H2_) | with_reducible exact H | (rw [hy177]; exact H) | exact H
                         have Ny177 := Am hy177;clear hy177;have H' := Am H
                         clear H;have hnb94 := NB141_140.out;have hnc94 := NB140_141.out;have hnb95 := NB141_149.out;have hnc95 := NB149_141.out;have hnb96 := NB141_150.out;have hnc96 := NB150_141.out;obtain ⟨hcz97_0, hcz97_1, hcz97_2, hfz97_0, hfz97_1, hfz97_2⟩ := zc3 BK141;obtain ⟨Ao98, co98, eo98⟩ := R_slice HO163.out
                         subst eo98
                         have n_ := Am (R_mono (ok' := (fun k_ => some k_ ≠ (.slice (some ad131) x7_1.length co51 : Value).ownBlock ∧ some k_ ≠ (.slice (some ad132) x8_1.length co52 : Value).ownBlock ∧ some k_ ≠ (u9 : Value).ownBlock ∧ some k_ ≠ (v172 : Value).ownBlock ∧ k_ ≠ gb140 ∧ k_ ≠ gb141 ∧ k_ ≠ gb149 ∧ k_ ≠ gb150)) HO163.out (fun k_ hk => ⟨hk.1.1, ⟨hk.1.2.1, ⟨hk.1.2.2.1, ⟨hk.2, ⟨hk.1.2.2.2.1, ⟨hk.1.2.2.2.2.1, ⟨hk.1.2.2.2.2.2.1, hk.1.2.2.2.2.2.2⟩⟩⟩⟩⟩⟩⟩));clear HO163;have HO163 := n_
                         clear n_;have q99 : (1 : Int) ≤ ((y161.length : Int) : Int) := of_decide_eq_true (by assumption)
                         obtain ⟨i099, hi099, _, hsz99, _⟩ := info_parts info26
                         have hcut99 := cut_from (P := Tryd.prog) 27 26 .i64 Tryd.underlying27 hi099 3 hsz99 Ao98 y161.length co98 1 (by omega) q99
                         have hr99 := Kd.Q_drop (k := (1 : Int).toNat) (Kd.Q_of_R HO163.out) (by omega)
                         obtain ⟨A99, hA99⟩ : ∃ A1, A1 = (if co98 = (1 : Int).toNat then Ao98 else (Ao98 : Option Addr).map (·.add ((1 : Int).toNat * 3))) := ⟨_, rfl⟩
                         obtain ⟨c99, hc99⟩ : ∃ c1, c1 = co98 - (1 : Int).toNat := ⟨_, rfl⟩
                         have hy99 : y174.length = y161.length - (1 : Int).toNat := (by rw [Ny174.out, List.length_drop])
                         rw [← Ny174.out] at hr99
                         rw [← hy99, ← hA99, ← hc99] at hcut99
                         replace hr99 : Kd.Q k26 26 w93 w.heap.size (fun k_ => some k_ ≠ (.slice (some ad131) x7_1.length co51 : Value).ownBlock ∧ some k_ ≠ (.slice (some ad132) x8_1.length co52 : Value).ownBlock ∧ some k_ ≠ (u9 : Value).ownBlock ∧ some k_ ≠ (v172 : Value).ownBlock ∧ k_ ≠ gb140 ∧ k_ ≠ gb141 ∧ k_ ≠ gb149 ∧ k_ ≠ gb150) (.slice A99 y174.length c99) y174 := (by rw [hA99, hc99, hy99]; exact hr99)
                         have HE99 : Aside0 ((Value.slice A99 y174.length c99).ownBlock = (.slice Ao98 y161.length co98 : Value).ownBlock) := ⟨by rw [hA99]; split <;> (cases (Ao98 : Option Addr) <;> first | rfl | exact own_add _ _ _ _ _ _)⟩
                         clear hy99 hi099 hsz99 HO163 hA99 hc99;have HO176 := Am hr99;clear hr99;replace q99 := eq_true q99;have n_ := Am (Kd.Q_mono (ok' := fun k_ => ((some k_ ≠ (.slice (some ad132) x8_1.length co52 : Value).ownBlock ∧ (some k_ ≠ (u9 : Value).ownBlock ∧ (some k_ ≠ (.slice A99 y174.length c99 : Value).ownBlock ∧ (k_ ≠ gb140 ∧ (k_ ≠ gb141 ∧ (k_ ≠ gb149 ∧ k_ ≠ gb150)))))) ∧ some k_ ≠ (v172 : Value).ownBlock)) HO_7.out (fun k_ hk => ⟨⟨hk.1.1, ⟨hk.1.2.1, ⟨(by rw [HE99.out]; exact hk.1.2.2.1), ⟨hk.1.2.2.2.1, ⟨hk.1.2.2.2.2.1, ⟨hk.1.2.2.2.2.2.1, hk.1.2.2.2.2.2.2⟩⟩⟩⟩⟩⟩, hk.2⟩));clear HO_7;have HO_7 := n_
                         clear n_;have n_ := Am (Kd.Q_mono (ok' := fun k_ => ((some k_ ≠ (.slice (some ad131) x7_1.length co51 : Value).ownBlock ∧ (some k_ ≠ (u9 : Value).ownBlock ∧ (some k_ ≠ (.slice A99 y174.length c99 : Value).ownBlock ∧ (k_ ≠ gb140 ∧ (k_ ≠ gb141 ∧ (k_ ≠ gb149 ∧ k_ ≠ gb150)))))) ∧ some k_ ≠ (v172 : Value).ownBlock)) HO_8.out (fun k_ hk => ⟨⟨hk.1.1, ⟨hk.1.2.1, ⟨(by rw [HE99.out]; exact hk.1.2.2.1), ⟨hk.1.2.2.2.1, ⟨hk.1.2.2.2.2.1, ⟨hk.1.2.2.2.2.2.1, hk.1.2.2.2.2.2.2⟩⟩⟩⟩⟩⟩, hk.2⟩));clear HO_8;have HO_8 := n_
                         clear n_;have n_ := Am (R_mono (ok' := fun k_ => ((some k_ ≠ (.slice (some ad131) x7_1.length co51 : Value).ownBlock ∧ (some k_ ≠ (.slice (some ad132) x8_1.length co52 : Value).ownBlock ∧ (some k_ ≠ (.slice A99 y174.length c99 : Value).ownBlock ∧ (k_ ≠ gb140 ∧ (k_ ≠ gb141 ∧ (k_ ≠ gb149 ∧ k_ ≠ gb150)))))) ∧ some k_ ≠ (v172 : Value).ownBlock)) HO_9.out (fun k_ hk => ⟨⟨hk.1.1, ⟨hk.1.2.1, ⟨(by rw [HE99.out]; exact hk.1.2.2.1), ⟨hk.1.2.2.2.1, ⟨hk.1.2.2.2.2.1, ⟨hk.1.2.2.2.2.2.1, hk.1.2.2.2.2.2.2⟩⟩⟩⟩⟩⟩, hk.2⟩));clear HO_9;have HO_9 := n_
                         clear n_;have n_ := Am (R_mono (ok' := fun k_ => (some k_ ≠ (.slice (some ad131) x7_1.length co51 : Value).ownBlock ∧ (some k_ ≠ (.slice (some ad132) x8_1.length co52 : Value).ownBlock ∧ (some k_ ≠ (u9 : Value).ownBlock ∧ (some k_ ≠ (.slice A99 y174.length c99 : Value).ownBlock ∧ (k_ ≠ gb140 ∧ (k_ ≠ gb141 ∧ (k_ ≠ gb149 ∧ k_ ≠ gb150)))))))) HO173.out (fun k_ hk => ⟨hk.1, ⟨hk.2.1, ⟨hk.2.2.1, ⟨(by rw [HE99.out]; exact hk.2.2.2.1), ⟨hk.2.2.2.2.1, ⟨hk.2.2.2.2.2.1, ⟨hk.2.2.2.2.2.2.1, hk.2.2.2.2.2.2.2⟩⟩⟩⟩⟩⟩⟩));clear HO173;have HO173 := n_
                         clear n_;have hnb100 := NB150_140.out;have hnc100 := NB140_150.out;have hnb101 := NB150_149.out;have hnc101 := NB149_150.out;obtain ⟨hcz102_0, hcz102_1, hcz102_2, hfz102_0, hfz102_1, hfz102_2⟩ := zc3 BK150;obtain ⟨Ao103, co103, eo103⟩ := R_slice HO173.out
                         subst eo103
                         have q104 : (1 : Int) ≤ ((y171.length : Int) : Int) := of_decide_eq_true (by assumption)
                         obtain ⟨i0104, hi0104, _, hsz104, _⟩ := info_parts info26
                         have hcut104 := cut_from (P := Tryd.prog) 27 26 .i64 Tryd.underlying27 hi0104 3 hsz104 Ao103 y171.length co103 1 (by omega) q104
                         have hr104 := Kd.Q_drop (k := (1 : Int).toNat) (Kd.Q_of_R HO173.out) (by omega)
                         obtain ⟨A104, hA104⟩ : ∃ A1, A1 = (if co103 = (1 : Int).toNat then Ao103 else (Ao103 : Option Addr).map (·.add ((1 : Int).toNat * 3))) := ⟨_, rfl⟩
                         obtain ⟨c104, hc104⟩ : ∃ c1, c1 = co103 - (1 : Int).toNat := ⟨_, rfl⟩
                         have hy104 : y177.length = y171.length - (1 : Int).toNat := (by rw [Ny177.out, List.length_drop])
                         rw [← Ny177.out] at hr104
                         rw [← hy104, ← hA104, ← hc104] at hcut104
                         replace hr104 : Kd.Q k26 26 w93 w.heap.size (fun k_ => some k_ ≠ (.slice (some ad131) x7_1.length co51 : Value).ownBlock ∧ some k_ ≠ (.slice (some ad132) x8_1.length co52 : Value).ownBlock ∧ some k_ ≠ (u9 : Value).ownBlock ∧ some k_ ≠ (.slice A99 y174.length c99 : Value).ownBlock ∧ k_ ≠ gb140 ∧ k_ ≠ gb141 ∧ k_ ≠ gb149 ∧ k_ ≠ gb150) (.slice A104 y177.length c104) y177 := (by rw [hA104, hc104, hy104]; exact hr104)
                         have HE104 : Aside0 ((Value.slice A104 y177.length c104).ownBlock = (.slice Ao103 y171.length co103 : Value).ownBlock) := ⟨by rw [hA104]; split <;> (cases (Ao103 : Option Addr) <;> first | rfl | exact own_add _ _ _ _ _ _)⟩
                         clear hy104 hi0104 hsz104 HO173 hA104 hc104;have HO179 := Am hr104;clear hr104;replace q104 := eq_true q104;have n_ := Am (Kd.Q_mono (ok' := fun k_ => ((some k_ ≠ (.slice (some ad132) x8_1.length co52 : Value).ownBlock ∧ (some k_ ≠ (u9 : Value).ownBlock ∧ (some k_ ≠ (.slice A99 y174.length c99 : Value).ownBlock ∧ (k_ ≠ gb140 ∧ (k_ ≠ gb141 ∧ (k_ ≠ gb149 ∧ k_ ≠ gb150)))))) ∧ some k_ ≠ (.slice A104 y177.length c104 : Value).ownBlock)) HO_7.out (fun k_ hk => ⟨⟨hk.1.1, ⟨hk.1.2.1, ⟨hk.1.2.2.1, ⟨hk.1.2.2.2.1, ⟨hk.1.2.2.2.2.1, ⟨hk.1.2.2.2.2.2.1, hk.1.2.2.2.2.2.2⟩⟩⟩⟩⟩⟩, (by rw [HE104.out]; exact hk.2)⟩));clear HO_7;have HO_7 := n_
                         clear n_;have n_ := Am (Kd.Q_mono (ok' := fun k_ => ((some k_ ≠ (.slice (some ad131) x7_1.length co51 : Value).ownBlock ∧ (some k_ ≠ (u9 : Value).ownBlock ∧ (some k_ ≠ (.slice A99 y174.length c99 : Value).ownBlock ∧ (k_ ≠ gb140 ∧ (k_ ≠ gb141 ∧ (k_ ≠ gb149 ∧ k_ ≠ gb150)))))) ∧ some k_ ≠ (.slice A104 y177.length c104 : Value).ownBlock)) HO_8.out (fun k_ hk => ⟨⟨hk.1.1, ⟨hk.1.2.1, ⟨hk.1.2.2.1, ⟨hk.1.2.2.2.1, ⟨hk.1.2.2.2.2.1, ⟨hk.1.2.2.2.2.2.1, hk.1.2.2.2.2.2.2⟩⟩⟩⟩⟩⟩, (by rw [HE104.out]; exact hk.2)⟩));clear HO_8;have HO_8 := n_
                         clear n_;have n_ := Am (R_mono (ok' := fun k_ => ((some k_ ≠ (.slice (some ad131) x7_1.length co51 : Value).ownBlock ∧ (some k_ ≠ (.slice (some ad132) x8_1.length co52 : Value).ownBlock ∧ (some k_ ≠ (.slice A99 y174.length c99 : Value).ownBlock ∧ (k_ ≠ gb140 ∧ (k_ ≠ gb141 ∧ (k_ ≠ gb149 ∧ k_ ≠ gb150)))))) ∧ some k_ ≠ (.slice A104 y177.length c104 : Value).ownBlock)) HO_9.out (fun k_ hk => ⟨⟨hk.1.1, ⟨hk.1.2.1, ⟨hk.1.2.2.1, ⟨hk.1.2.2.2.1, ⟨hk.1.2.2.2.2.1, ⟨hk.1.2.2.2.2.2.1, hk.1.2.2.2.2.2.2⟩⟩⟩⟩⟩⟩, (by rw [HE104.out]; exact hk.2)⟩));clear HO_9;have HO_9 := n_
                         clear n_;have n_ := Am (Kd.Q_mono (ok' := fun k_ => (some k_ ≠ (.slice (some ad131) x7_1.length co51 : Value).ownBlock ∧ (some k_ ≠ (.slice (some ad132) x8_1.length co52 : Value).ownBlock ∧ (some k_ ≠ (u9 : Value).ownBlock ∧ (some k_ ≠ (.slice A104 y177.length c104 : Value).ownBlock ∧ (k_ ≠ gb140 ∧ (k_ ≠ gb141 ∧ (k_ ≠ gb149 ∧ k_ ≠ gb150)))))))) HO176.out (fun k_ hk => ⟨hk.1, ⟨hk.2.1, ⟨hk.2.2.1, ⟨(by rw [HE104.out]; exact hk.2.2.2.1), ⟨hk.2.2.2.2.1, ⟨hk.2.2.2.2.2.1, ⟨hk.2.2.2.2.2.2.1, hk.2.2.2.2.2.2.2⟩⟩⟩⟩⟩⟩⟩));clear HO176;have HO176 := n_
                         clear n_;try go_wp2
                         go_roundg kj48
                         case measure => have := HK1.out; have := HJ11.out; have := HJ17.out; have := HJ29.out; have := HJ48.out; omega
                         case rel => exact ⟨(y174), (y177), (x9_48), H', ⟨by have := HK1.out; have := HJ11.out; have := HJ17.out; have := HJ29.out; have := HJ48.out; omega⟩, ⟨by (with_reducible repeat (first | apply zA.p | apply zA.q | apply zA.r)); exact Kd.Q_mono HO176.out (fun _ hk => ⟨hk.2.2.2.1, hk.2.2.1⟩)⟩, ⟨by (with_reducible repeat (first | apply zA.p | apply zA.q | apply zA.r)); exact Kd.Q_mono HO179.out (fun _ hk => ⟨hk.2.2.2.1, hk.2.2.1⟩)⟩, ⟨by (with_reducible repeat (first | apply zA.a | apply zA.n | apply zA.d)); exact R_mono HO_9.out (fun _ hk => ⟨hk.1.2.2.1, hk.2⟩)⟩, ⟨(zB HB)⟩⟩
                        ·rw [if_neg c83] at H;exact absurd H (by simp)
                       ·rw [if_neg c82] at H;have c82b0 : (t147 == 0) = false := beq_eq_false_iff_ne.mpr c82
                        have c82b1 : (t147 != 0) = true := bne_iff_ne.mpr c82
                        have H' := Am H
                        clear H;have hnb115 := NB141_140.out;have hnc115 := NB140_141.out;have hnb116 := NB141_149.out;have hnc116 := NB149_141.out;have hnb117 := NB141_150.out;have hnc117 := NB150_141.out;obtain ⟨hcz118_0, hcz118_1, hcz118_2, hfz118_0, hfz118_1, hfz118_2⟩ := zc3 BK141;obtain ⟨Ao119, co119, eo119⟩ := R_slice HO163.out
                        subst eo119
                        have n_ := Am (R_mono (ok' := (fun k_ => some k_ ≠ (.slice (some ad131) x7_1.length co51 : Value).ownBlock ∧ some k_ ≠ (.slice (some ad132) x8_1.length co52 : Value).ownBlock ∧ some k_ ≠ (u9 : Value).ownBlock ∧ some k_ ≠ (v172 : Value).ownBlock ∧ k_ ≠ gb140 ∧ k_ ≠ gb141 ∧ k_ ≠ gb149 ∧ k_ ≠ gb150)) HO163.out (fun k_ hk => ⟨hk.1.1, ⟨hk.1.2.1, ⟨hk.1.2.2.1, ⟨hk.2, ⟨hk.1.2.2.2.1, ⟨hk.1.2.2.2.2.1, ⟨hk.1.2.2.2.2.2.1, hk.1.2.2.2.2.2.2⟩⟩⟩⟩⟩⟩⟩));clear HO163;have HO163 := n_
                        clear n_;have q120 : (1 : Int) ≤ ((y161.length : Int) : Int) := of_decide_eq_true (by assumption)
                        obtain ⟨i0120, hi0120, _, hsz120, _⟩ := info_parts info26
                        have hcut120 := cut_from (P := Tryd.prog) 27 26 .i64 Tryd.underlying27 hi0120 3 hsz120 Ao119 y161.length co119 1 (by omega) q120
                        have hr120 := Kd.Q_drop (k := (1 : Int).toNat) (Kd.Q_of_R HO163.out) (by omega)
                        obtain ⟨A120, hA120⟩ : ∃ A1, A1 = (if co119 = (1 : Int).toNat then Ao119 else (Ao119 : Option Addr).map (·.add ((1 : Int).toNat * 3))) := ⟨_, rfl⟩
                        obtain ⟨c120, hc120⟩ : ∃ c1, c1 = co119 - (1 : Int).toNat := ⟨_, rfl⟩
                        have hy120 : y174.length = y161.length - (1 : Int).toNat := (by rw [Ny174.out, List.length_drop])
                        rw [← Ny174.out] at hr120
                        rw [← hy120, ← hA120, ← hc120] at hcut120
                        replace hr120 : Kd.Q k26 26 w93 w.heap.size (fun k_ => some k_ ≠ (.slice (some ad131) x7_1.length co51 : Value).ownBlock ∧ some k_ ≠ (.slice (some ad132) x8_1.length co52 : Value).ownBlock ∧ some k_ ≠ (u9 : Value).ownBlock ∧ some k_ ≠ (v172 : Value).ownBlock ∧ k_ ≠ gb140 ∧ k_ ≠ gb141 ∧ k_ ≠ gb149 ∧ k_ ≠ gb150) (.slice A120 y174.length c120) y174 := (by rw [hA120, hc120, hy120]; exact hr120)
                        have HE120 : Aside0 ((Value.slice A120 y174.length c120).ownBlock = (.slice Ao119 y161.length co119 : Value).ownBlock) := ⟨by rw [hA120]; split <;> (cases (Ao119 : Option Addr) <;> first | rfl | exact own_add _ _ _ _ _ _)⟩
                        clear hy120 hi0120 hsz120 HO163 hA120 hc120;have HO176 := Am hr120;clear hr120;replace q120 := eq_true q120;have n_ := Am (Kd.Q_mono (ok' := fun k_ => ((some k_ ≠ (.slice (some ad132) x8_1.length co52 : Value).ownBlock ∧ (some k_ ≠ (u9 : Value).ownBlock ∧ (some k_ ≠ (.slice A120 y174.length c120 : Value).ownBlock ∧ (k_ ≠ gb140 ∧ (k_ ≠ gb141 ∧ (k_ ≠ gb149 ∧ k_ ≠ gb150)))))) ∧ some k_ ≠ (v172 : Value).ownBlock)) HO_7.out (fun k_ hk => ⟨⟨hk.1.1, ⟨hk.1.2.1, ⟨(by rw [HE120.out]; exact hk.1.2.2.1), ⟨hk.1.2.2.2.1, ⟨hk.1.2.2.2.2.1, ⟨hk.1.2.2.2.2.2.1, hk.1.2.2.2.2.2.2⟩⟩⟩⟩⟩⟩, hk.2⟩));clear HO_7;have HO_7 := n_
                        clear n_;have n_ := Am (Kd.Q_mono (ok' := fun k_ => ((some k_ ≠ (.slice (some ad131) x7_1.length co51 : Value).ownBlock ∧ (some k_ ≠ (u9 : Value).ownBlock ∧ (some k_ ≠ (.slice A120 y174.length c120 : Value).ownBlock ∧ (k_ ≠ gb140 ∧ (k_ ≠ gb141 ∧ (k_ ≠ gb149 ∧ k_ ≠ gb150)))))) ∧ some k_ ≠ (v172 : Value).ownBlock)) HO_8.out (fun k_ hk => ⟨⟨hk.1.1, ⟨hk.1.2.1, ⟨(by rw [HE120.out]; exact hk.1.2.2.1), ⟨hk.1.2.2.2.1, ⟨hk.1.2.2.2.2.1, ⟨hk.1.2.2.2.2.2.1, hk.1.2.2.2.2.2.2⟩⟩⟩⟩⟩⟩, hk.2⟩));clear HO_8;have HO_8 := n_
                        clear n_;have n_ := Am (R_mono (ok' := fun k_ => ((some k_ ≠ (.slice (some ad131) x7_1.length co51 : Value).ownBlock ∧ (some k_ ≠ (.slice (some ad132) x8_1.length co52 : Value).ownBlock ∧ (some k_ ≠ (.slice A120 y174.length c120 : Value).ownBlock ∧ (k_ ≠ gb140 ∧ (k_ ≠ gb141 ∧ (k_ ≠ gb149 ∧ k_ ≠ gb150)))))) ∧ some k_ ≠ (v172 : Value).ownBlock)) HO_9.out (fun k_ hk => ⟨⟨hk.1.1, ⟨hk.1.2.1, ⟨(by rw [HE120.out]; exact hk.1.2.2.1), ⟨hk.1.2.2.2.1, ⟨hk.1.2.2.2.2.1, ⟨hk.1.2.2.2.2.2.1, hk.1.2.2.2.2.2.2⟩⟩⟩⟩⟩⟩, hk.2⟩));clear HO_9;have HO_9 := n_
                        clear n_;have n_ := Am (R_mono (ok' := fun k_ => (some k_ ≠ (.slice (some ad131) x7_1.length co51 : Value).ownBlock ∧ (some k_ ≠ (.slice (some ad132) x8_1.length co52 : Value).ownBlock ∧ (some k_ ≠ (u9 : Value).ownBlock ∧ (some k_ ≠ (.slice A120 y174.length c120 : Value).ownBlock ∧ (k_ ≠ gb140 ∧ (k_ ≠ gb141 ∧ (k_ ≠ gb149 ∧ k_ ≠ gb150)))))))) HO173.out (fun k_ hk => ⟨hk.1, ⟨hk.2.1, ⟨hk.2.2.1, ⟨(by rw [HE120.out]; exact hk.2.2.2.1), ⟨hk.2.2.2.2.1, ⟨hk.2.2.2.2.2.1, ⟨hk.2.2.2.2.2.2.1, hk.2.2.2.2.2.2.2⟩⟩⟩⟩⟩⟩⟩));clear HO173;have HO173 := n_
                        clear n_;have hnb121 := NB150_140.out;have hnc121 := NB140_150.out;have hnb122 := NB150_149.out;have hnc122 := NB149_150.out;obtain ⟨hcz123_0, hcz123_1, hcz123_2, hfz123_0, hfz123_1, hfz123_2⟩ := zc3 BK150;try go_wp2
                        go_roundg kj48
                        case measure => have := HK1.out; have := HJ11.out; have := HJ17.out; have := HJ29.out; have := HJ48.out; omega
                        case rel => exact ⟨(y174), (y171), (x9_48), H', ⟨by have := HK1.out; have := HJ11.out; have := HJ17.out; have := HJ29.out; have := HJ48.out; omega⟩, ⟨by (with_reducible repeat (first | apply zA.p | apply zA.q | apply zA.r)); exact Kd.Q_mono HO176.out (fun _ hk => ⟨hk.2.2.2.1, hk.2.2.1⟩)⟩, ⟨Kd.Q_of_R (by (with_reducible repeat (first | apply zA.a | apply zA.n | apply zA.d)); exact R_mono HO173.out (fun _ hk => ⟨hk.2.2.2.1, hk.2.2.1⟩))⟩, ⟨by (with_reducible repeat (first | apply zA.a | apply zA.n | apply zA.d)); exact R_mono HO_9.out (fun _ hk => ⟨hk.1.2.2.1, hk.2⟩)⟩, ⟨(zB HB)⟩⟩
                      ·rw [if_neg c81] at H;exact absurd H (by simp)
                     ·rw [if_neg c80] at H;have c80b0 : (t138 == 0) = false := beq_eq_false_iff_ne.mpr c80
                      have c80b1 : (t138 != 0) = true := bne_iff_ne.mpr c80
                      by_cases c124 : t147 = 0
                      ·rw [if_pos c124] at H;have c124b0 : (t147 == 0) = true := beq_iff_eq.mpr c124
                       have c124b1 : (t147 != 0) = false := bne_eq_false_iff_eq.mpr c124
                       clear c124;by_cases c125 : 1 ≤ (y171.length : Int)
                       ·rw [if_pos c125] at H;have c125b0 := eq_true c125
                        have c125b1 : decide (1 ≤ (y171.length : Int)) = true := decide_eq_true c125
                        clear c125;obtain ⟨y180, hy180⟩ : ∃ y_ : List (S26), y_ = (y171.drop (1 : Int).toNat) := ⟨_, rfl⟩
                        replace H : (epitomeref12_Of.l0 kj48 y161 y180 x9_48) = some (r1, r2) := by first | (rw [hy180]; with_reducible exact H) | (have H2_ := (Option.bind_some _ _).symm.trans H; rw [hy180]; with_reducible exact H2_) | (have H2_ := (Option.bind_some _ _).symm.trans H; with_reducible exact H2_) | with_reducible exact H | (rw [hy180]; exact H) | exact H
                        have Ny180 := Am hy180;clear hy180;have H' := Am H
                        clear H;have hnb136 := NB141_140.out;have hnc136 := NB140_141.out;have hnb137 := NB141_149.out;have hnc137 := NB149_141.out;have hnb138 := NB141_150.out;have hnc138 := NB150_141.out;obtain ⟨hcz139_0, hcz139_1, hcz139_2, hfz139_0, hfz139_1, hfz139_2⟩ := zc3 BK141;have hnb140 := NB150_140.out;have hnc140 := NB140_150.out;have hnb141 := NB150_149.out;have hnc141 := NB149_150.out;obtain ⟨hcz142_0, hcz142_1, hcz142_2, hfz142_0, hfz142_1, hfz142_2⟩ := zc3 BK150;obtain ⟨Ao143, co143, eo143⟩ := R_slice HO173.out
                        subst eo143
                        have q144 : (1 : Int) ≤ ((y171.length : Int) : Int) := of_decide_eq_true (by assumption)
                        obtain ⟨i0144, hi0144, _, hsz144, _⟩ := info_parts info26
                        have hcut144 := cut_from (P := Tryd.prog) 27 26 .i64 Tryd.underlying27 hi0144 3 hsz144 Ao143 y171.length co143 1 (by omega) q144
                        have hr144 := Kd.Q_drop (k := (1 : Int).toNat) (Kd.Q_of_R HO173.out) (by omega)
                        obtain ⟨A144, hA144⟩ : ∃ A1, A1 = (if co143 = (1 : Int).toNat then Ao143 else (Ao143 : Option Addr).map (·.add ((1 : Int).toNat * 3))) := ⟨_, rfl⟩
                        obtain ⟨c144, hc144⟩ : ∃ c1, c1 = co143 - (1 : Int).toNat := ⟨_, rfl⟩
                        have hy144 : y180.length = y171.length - (1 : Int).toNat := (by rw [Ny180.out, List.length_drop])
                        rw [← Ny180.out] at hr144
                        rw [← hy144, ← hA144, ← hc144] at hcut144
                        replace hr144 : Kd.Q k26 26 w93 w.heap.size (fun k_ => some k_ ≠ (.slice (some ad131) x7_1.length co51 : Value).ownBlock ∧ some k_ ≠ (.slice (some ad132) x8_1.length co52 : Value).ownBlock ∧ some k_ ≠ (u9 : Value).ownBlock ∧ some k_ ≠ (v162 : Value).ownBlock ∧ k_ ≠ gb140 ∧ k_ ≠ gb141 ∧ k_ ≠ gb149 ∧ k_ ≠ gb150) (.slice A144 y180.length c144) y180 := (by rw [hA144, hc144, hy144]; exact hr144)
                        have HE144 : Aside0 ((Value.slice A144 y180.length c144).ownBlock = (.slice Ao143 y171.length co143 : Value).ownBlock) := ⟨by rw [hA144]; split <;> (cases (Ao143 : Option Addr) <;> first | rfl | exact own_add _ _ _ _ _ _)⟩
                        clear hy144 hi0144 hsz144 HO173 hA144 hc144;have HO182 := Am hr144;clear hr144;replace q144 := eq_true q144;have n_ := Am (Kd.Q_mono (ok' := fun k_ => ((some k_ ≠ (.slice (some ad132) x8_1.length co52 : Value).ownBlock ∧ (some k_ ≠ (u9 : Value).ownBlock ∧ (some k_ ≠ (v162 : Value).ownBlock ∧ (k_ ≠ gb140 ∧ (k_ ≠ gb141 ∧ (k_ ≠ gb149 ∧ k_ ≠ gb150)))))) ∧ some k_ ≠ (.slice A144 y180.length c144 : Value).ownBlock)) HO_7.out (fun k_ hk => ⟨⟨hk.1.1, ⟨hk.1.2.1, ⟨hk.1.2.2.1, ⟨hk.1.2.2.2.1, ⟨hk.1.2.2.2.2.1, ⟨hk.1.2.2.2.2.2.1, hk.1.2.2.2.2.2.2⟩⟩⟩⟩⟩⟩, (by rw [HE144.out]; exact hk.2)⟩));clear HO_7;have HO_7 := n_
                        clear n_;have n_ := Am (Kd.Q_mono (ok' := fun k_ => ((some k_ ≠ (.slice (some ad131) x7_1.length co51 : Value).ownBlock ∧ (some k_ ≠ (u9 : Value).ownBlock ∧ (some k_ ≠ (v162 : Value).ownBlock ∧ (k_ ≠ gb140 ∧ (k_ ≠ gb141 ∧ (k_ ≠ gb149 ∧ k_ ≠ gb150)))))) ∧ some k_ ≠ (.slice A144 y180.length c144 : Value).ownBlock)) HO_8.out (fun k_ hk => ⟨⟨hk.1.1, ⟨hk.1.2.1, ⟨hk.1.2.2.1, ⟨hk.1.2.2.2.1, ⟨hk.1.2.2.2.2.1, ⟨hk.1.2.2.2.2.2.1, hk.1.2.2.2.2.2.2⟩⟩⟩⟩⟩⟩, (by rw [HE144.out]; exact hk.2)⟩));clear HO_8;have HO_8 := n_
                        clear n_;have n_ := Am (R_mono (ok' := fun k_ => ((some k_ ≠ (.slice (some ad131) x7_1.length co51 : Value).ownBlock ∧ (some k_ ≠ (.slice (some ad132) x8_1.length co52 : Value).ownBlock ∧ (some k_ ≠ (v162 : Value).ownBlock ∧ (k_ ≠ gb140 ∧ (k_ ≠ gb141 ∧ (k_ ≠ gb149 ∧ k_ ≠ gb150)))))) ∧ some k_ ≠ (.slice A144 y180.length c144 : Value).ownBlock)) HO_9.out (fun k_ hk => ⟨⟨hk.1.1, ⟨hk.1.2.1, ⟨hk.1.2.2.1, ⟨hk.1.2.2.2.1, ⟨hk.1.2.2.2.2.1, ⟨hk.1.2.2.2.2.2.1, hk.1.2.2.2.2.2.2⟩⟩⟩⟩⟩⟩, (by rw [HE144.out]; exact hk.2)⟩));clear HO_9;have HO_9 := n_
                        clear n_;have n_ := Am (R_mono (ok' := fun k_ => ((some k_ ≠ (.slice (some ad131) x7_1.length co51 : Value).ownBlock ∧ (some k_ ≠ (.slice (some ad132) x8_1.length co52 : Value).ownBlock ∧ (some k_ ≠ (u9 : Value).ownBlock ∧ (k_ ≠ gb140 ∧ (k_ ≠ gb141 ∧ (k_ ≠ gb149 ∧ k_ ≠ gb150)))))) ∧ some k_ ≠ (.slice A144 y180.length c144 : Value).ownBlock)) HO163.out (fun k_ hk => ⟨⟨hk.1.1, ⟨hk.1.2.1, ⟨hk.1.2.2.1, ⟨hk.1.2.2.2.1, ⟨hk.1.2.2.2.2.1, ⟨hk.1.2.2.2.2.2.1, hk.1.2.2.2.2.2.2⟩⟩⟩⟩⟩⟩, (by rw [HE144.out]; exact hk.2)⟩));clear HO163;have HO163 := n_
                        clear n_;try go_wp2
                        go_roundg kj48
                        case measure => have := HK1.out; have := HJ11.out; have := HJ17.out; have := HJ29.out; have := HJ48.out; omega
                        case rel => exact ⟨(y161), (y180), (x9_48), H', ⟨by have := HK1.out; have := HJ11.out; have := HJ17.out; have := HJ29.out; have := HJ48.out; omega⟩, ⟨Kd.Q_of_R (by (with_reducible repeat (first | apply zA.a | apply zA.n | apply zA.d)); exact R_mono HO163.out (fun _ hk => ⟨hk.2, hk.1.2.2.1⟩))⟩, ⟨by (with_reducible repeat (first | apply zA.p | apply zA.q | apply zA.r)); exact Kd.Q_mono HO182.out (fun _ hk => ⟨hk.2.2.2.1, hk.2.2.1⟩)⟩, ⟨by (with_reducible repeat (first | apply zA.a | apply zA.n | apply zA.d)); exact R_mono HO_9.out (fun _ hk => ⟨hk.1.2.2.1, hk.2⟩)⟩, ⟨(zB HB)⟩⟩
                       ·rw [if_neg c125] at H;exact absurd H (by simp)
                      ·rw [if_neg c124] at H;have c124b0 : (t147 == 0) = false := beq_eq_false_iff_ne.mpr c124
                       have c124b1 : (t147 != 0) = true := bne_iff_ne.mpr c124
                       have H' := Am H
                       clear H;have hnb155 := NB141_140.out;have hnc155 := NB140_141.out;have hnb156 := NB141_149.out;have hnc156 := NB149_141.out;have hnb157 := NB141_150.out;have hnc157 := NB150_141.out;obtain ⟨hcz158_0, hcz158_1, hcz158_2, hfz158_0, hfz158_1, hfz158_2⟩ := zc3 BK141;have hnb159 := NB150_140.out;have hnc159 := NB140_150.out;have hnb160 := NB150_149.out;have hnc160 := NB149_150.out;obtain ⟨hcz161_0, hcz161_1, hcz161_2, hfz161_0, hfz161_1, hfz161_2⟩ := zc3 BK150;try go_wp2
                       go_roundg kj48
                       case measure => have := HK1.out; have := HJ11.out; have := HJ17.out; have := HJ29.out; have := HJ48.out; omega
                       case rel => exact ⟨(y161), (y171), (x9_48), H', ⟨by have := HK1.out; have := HJ11.out; have := HJ17.out; have := HJ29.out; have := HJ48.out; omega⟩, ⟨Kd.Q_of_R (by (with_reducible repeat (first | apply zA.a | apply zA.n | apply zA.d)); exact R_mono HO163.out (fun _ hk => ⟨hk.2, hk.1.2.2.1⟩))⟩, ⟨Kd.Q_of_R (by (with_reducible repeat (first | apply zA.a | apply zA.n | apply zA.d)); exact R_mono HO173.out (fun _ hk => ⟨hk.2.2.2.1, hk.2.2.1⟩))⟩, ⟨by (with_reducible repeat (first | apply zA.a | apply zA.n | apply zA.d)); exact R_mono HO_9.out (fun _ hk => ⟨hk.1.2.2.1, hk.2⟩)⟩, ⟨(zB HB)⟩⟩
                    ·rw [if_neg c79] at H;exact absurd H (by simp)
                   ·rw [if_neg c78] at H;exact absurd H (by simp)
                  ·rw [if_neg c77] at H;exact absurd H (by simp)
                 ·rw [if_neg c76] at H;exact absurd H (by simp)
              ·rw [if_neg c45] at H;exact absurd H (by simp)
             ·rw [if_neg c44] at H;exact absurd H (by simp)
      ·replace c17 := Bool.eq_false_iff.mpr c17
       subst c17
       have H1 : ((epitomeref05_Of.f kj11 x9_1).bind fun t111 => (some (t111, 0))) = some (r1, r2) := by rw [if_neg (show ¬ (false = true) by decide)] at H; exact H
       clear H;have H := H1
       clear H1;replace H := Option.bind_eq_some_iff.mp H;obtain ⟨t111, A1620, H⟩ := H;replace H : (some (t111, 0)) = some (r1, r2) := H
       have A162 := Am A1620;clear A1620;simp only [Option.some.injEq, Prod.mk.injEq] at H
       obtain ⟨rfl, rfl⟩ := H;obtain ⟨Ao163, co163, eo163⟩ := R_slice HO_9.out
       subst eo163
       go_wp2_with (first | ((with_reducible refine gate_callee (f := 59) rfl ?_); refine goesL_ (some 125) rfl rfl Tryd.func59 (by kernel_rfl) rfl #[.slice Ao163 x9_1.length co163] rfl zE ?_; (with_reducible refine (epitomeref05_Of.calls kj11 _ _ x9_1 t111 _ ?side1 ?side2 A162.out).mono ?_); (case side1 => exact zI (R_reads' HO_9.out).2.2); (case side2 => exact (R_reads' HO_9.out).2.1); rintro e w164 ⟨v112, rfl, ho0, hb⟩; refine ⟨_, rfl, ?_⟩; have HO113 := Am (R_lower (R_new' (R_new' (R_new' ho0 (Kd.Q_lt (zQ HO_7))) (Kd.Q_lt (zQ HO_8))) (R_lt (zR HO_9))) (below_size (zB HB)));replace HO_7 := Am (Kd.Q_elder' (zQ HO_7) (R_base ho0) hb);replace HO_8 := Am (Kd.Q_elder' (zQ HO_8) (R_base ho0) hb);replace HO_9 := Am (zr HO_9 ho0 hb);replace HB := Am (below_step (zB HB) hb); (try clear hb); (try clear ho0)))
       go_ret2
       exact ⟨_, zF, by (with_reducible repeat (first | apply zA.a | apply zA.n | apply zA.d)); exact R_mono HO113.out (fun _ hk => trivial), (zB HB)⟩
 ·rw [if_neg c4] at H;have c4b0 : (t101 == 0) = false := beq_eq_false_iff_ne.mpr c4
  have c4b1 : (t101 != 0) = true := bne_iff_ne.mpr c4
  simp only [Option.some.injEq, Prod.mk.injEq] at H
  obtain ⟨rfl, rfl⟩ := H;go_enter Tryd.func21, Tryd.ntmps21
  go_wp2_with (first | ((with_reducible refine gate_callee (f := 58) rfl ?_); refine goesL_ (some 17) rfl rfl Tryd.func58 (by kernel_rfl) rfl #[.slice A0 l0.length c0, .slice A1 l1.length c1] rfl zE ?_; (with_reducible refine (epitomeref11_Both.calls k _ _ l0 _ _ l1 t101 _ ?side1 ?side2 ?side3 ?side4 A3.out).mono ?_); (case side1 => exact zI HR0.out); (case side2 => exact HC0.out); (case side3 => exact zI HR1.out); (case side4 => exact HC1.out); rintro e w165 ⟨rfl, hb⟩; refine ⟨_, rfl, ?_⟩; replace HB := Am (below_step (zB HB) hb); (try clear hb)))
  go_ret2
  exact ⟨_, zF, by first | exact R_nil _ _ _ _ _ | exact Kd.N_nil _ _ _ _ _ | exact Kd.V_nil _ _ _ _ _ | exact Kd.Q_nil _ _ _ _ _ | exact Kd.S_nil _ _ _ _ _, (zB HB)⟩
end Go.Proofs.YtkefbljogjcodaaDoor.F
end
section
namespace Go.Proofs.YtkefbljogjcodaaDoor.F
open Go.RowKit Go.Proofs.YtkefbljogjcodaaDoorW.PrintWords Go.Proofs.YtkefbljogjcodaaDoorW.PrintLast Go.Proofs.YtkefbljogjcodaaDoorW.PrintMore
attribute [local go_sem] max2_int min2_int max_two min_two max_three min_three max_four min_four cell_setCell_isSome
set_option linter.unusedVariables false
set_option linter.unusedSimpArgs false
open Kd
def under_Meet.f (k : Nat) (l0 : List (S26)) (l1 : List (S26)) : Option ((List (S26)) × (List (S26)) × Int) := (over_Of.f k l0 l1).bind fun bt101 => (if bt101.2 = 0 then ((under_Of.f k l1 l0).bind fun bt105 => (some (bt101.1, bt105.1, bt105.2))) else (some (([] : List (S26)), ([] : List (S26)), bt101.2)))
set_option maxHeartbeats 40000000 in
set_option maxRecDepth 100000 in
theorem under_Meet.calls (k : Nat) (A0 : Option Addr) (c0 : Nat) (l0 : List (S26)) (A1 : Option Addr) (c1 : Nat) (l1 : List (S26)) (r1 : List (S26)) (r2 : List (S26)) (r3 : Int) (w : World) (hG : Glob w) (hr0 : Kd.C k26 w A0 l0.length l0) (hc0 : l0.length ≤ c0) (hr1 : Kd.C k26 w A1 l1.length l1) (hc1 : l1.length ≤ c1) (h : under_Meet.f k l0 l1 = some (r1, r2, r3)) :
  Calls Tryd.prog 23 #[.slice A0 l0.length c0, .slice A1 l1.length c1] w fun e w' => ∃ v0_ v1_ : Value, e = .returned (.tuple #[v0_, v1_, .int .i64 r3]) ∧ Kd.R k26 26 w' w.heap.size (fun k_ => some k_ ≠ (v1_ : Value).ownBlock) v0_ r1 ∧ Kd.R k26 26 w' w.heap.size (fun k_ => some k_ ≠ (v0_ : Value).ownBlock) v1_ r2 ∧ Below w.heap.size w w' := by
 have HG := Am hG;clear hG;have HR0 := Am hr0;have HC0 := Am hc0;clear hr0 hc0;have HR1 := Am hr1;have HC1 := Am hc1;clear hr1 hc1;have HB := Am (Below.refl w.heap.size w)
 have H : ((over_Of.f k l0 l1).bind fun bt101 => (if bt101.2 = 0 then ((under_Of.f k l1 l0).bind fun bt105 => (some (bt101.1, bt105.1, bt105.2))) else (some (([] : List (S26)), ([] : List (S26)), bt101.2)))) = some (r1, r2, r3) := h
 clear h;replace H := Option.bind_eq_some_iff.mp H;obtain ⟨⟨t101, t102⟩, A30, H⟩ := H;replace H : (if t102 = 0 then ((under_Of.f k l1 l0).bind fun bt105 => (some (t101, bt105.1, bt105.2))) else (some (([] : List (S26)), ([] : List (S26)), t102))) = some (r1, r2, r3) := H
 have A3 := Am A30;clear A30;by_cases c4 : t102 = 0
 ·rw [if_pos c4] at H;have c4b0 : (t102 == 0) = true := beq_iff_eq.mpr c4
  have c4b1 : (t102 != 0) = false := bne_eq_false_iff_eq.mpr c4
  clear c4;replace H := Option.bind_eq_some_iff.mp H;obtain ⟨⟨t105, t106⟩, A50, H⟩ := H;replace H : (some (t101, t105, t106)) = some (r1, r2, r3) := H
  have A5 := Am A50;clear A50;simp only [Option.some.injEq, Prod.mk.injEq] at H
  obtain ⟨rfl, rfl, rfl⟩ := H;go_enter Tryd.func23, Tryd.ntmps23
  go_wp2_with (first | ((with_reducible refine gate_callee (f := 15) rfl ?_); refine goesL_ (some 10) rfl rfl Tryd.func15 (by kernel_rfl) rfl #[.slice A0 l0.length c0, .slice A1 l1.length c1] rfl zE ?_; (with_reducible refine (over_Of.calls k _ _ l0 _ _ l1 t101 t102 _ ?side1 ?side2 ?side3 ?side4 ?side5 A3.out).mono ?_); (case side1 => exact zg HG HB); (case side2 => exact zI HR0.out); (case side3 => exact HC0.out); (case side4 => exact zI HR1.out); (case side5 => exact HC1.out); rintro e w6 ⟨v103, rfl, ho0, hb⟩; refine ⟨_, rfl, ?_⟩; have HO104 := Am (R_lower ho0 (below_size (zB HB)));replace HB := Am (below_step (zB HB) hb); (try clear hb); (try clear ho0)) | ((with_reducible refine gate_callee (f := 16) rfl ?_); refine goesL_ (some 19) rfl rfl Tryd.func16 (by kernel_rfl) rfl #[.slice A1 l1.length c1, .slice A0 l0.length c0] rfl zE ?_; (with_reducible refine (under_Of.calls k _ _ l1 _ _ l0 t105 t106 _ ?side1 ?side2 ?side3 ?side4 ?side5 A5.out).mono ?_); (case side1 => exact zg HG HB); (case side2 => exact zI (C_below HR1.out HB.out)); (case side3 => exact HC1.out); (case side4 => exact zI (C_below HR0.out HB.out)); (case side5 => exact HC0.out); rintro e w7 ⟨v107, rfl, ho0, hb⟩; refine ⟨_, rfl, ?_⟩; have HO108 := Am (R_lower (zn ho0 HO104) (below_size (zB HB)));replace HO104 := Am (zr HO104 ho0 hb);replace HB := Am (below_step (zB HB) hb); (try clear hb); (try clear ho0)))
  go_ret3
  exact ⟨_, _, zF, by (with_reducible repeat (first | apply R_alloc | apply R_drewN | apply R_drew)); exact R_mono HO104.out (fun _ hk => hk.2), by (with_reducible repeat (first | apply R_alloc | apply R_drewN | apply R_drew)); exact R_mono HO108.out (fun _ hk => hk.2), (zB HB)⟩
 ·rw [if_neg c4] at H;have c4b0 : (t102 == 0) = false := beq_eq_false_iff_ne.mpr c4
  have c4b1 : (t102 != 0) = true := bne_iff_ne.mpr c4
  simp only [Option.some.injEq, Prod.mk.injEq] at H
  obtain ⟨rfl, rfl, rfl⟩ := H;go_enter Tryd.func23, Tryd.ntmps23
  go_wp2_with (first | ((with_reducible refine gate_callee (f := 15) rfl ?_); refine goesL_ (some 10) rfl rfl Tryd.func15 (by kernel_rfl) rfl #[.slice A0 l0.length c0, .slice A1 l1.length c1] rfl zE ?_; (with_reducible refine (over_Of.calls k _ _ l0 _ _ l1 t101 t102 _ ?side1 ?side2 ?side3 ?side4 ?side5 A3.out).mono ?_); (case side1 => exact zg HG HB); (case side2 => exact zI HR0.out); (case side3 => exact HC0.out); (case side4 => exact zI HR1.out); (case side5 => exact HC1.out); rintro e w8 ⟨v103, rfl, ho0, hb⟩; refine ⟨_, rfl, ?_⟩; have HO104 := Am (R_lower ho0 (below_size (zB HB)));replace HB := Am (below_step (zB HB) hb); (try clear hb); (try clear ho0)))
  go_ret3
  exact ⟨_, _, zF, by first | exact R_nil _ _ _ _ _ | exact Kd.N_nil _ _ _ _ _ | exact Kd.V_nil _ _ _ _ _ | exact Kd.Q_nil _ _ _ _ _ | exact Kd.S_nil _ _ _ _ _, by first | exact R_nil _ _ _ _ _ | exact Kd.N_nil _ _ _ _ _ | exact Kd.V_nil _ _ _ _ _ | exact Kd.Q_nil _ _ _ _ _ | exact Kd.S_nil _ _ _ _ _, (zB HB)⟩
end Go.Proofs.YtkefbljogjcodaaDoor.F
end
section
namespace Go.Proofs.YtkefbljogjcodaaDoor.F
open Go.RowKit Go.Proofs.YtkefbljogjcodaaDoorW.PrintWords Go.Proofs.YtkefbljogjcodaaDoorW.PrintLast Go.Proofs.YtkefbljogjcodaaDoorW.PrintMore
attribute [local go_sem] max2_int min2_int max_two min_two max_three min_three max_four min_four cell_setCell_isSome
set_option linter.unusedVariables false
set_option linter.unusedSimpArgs false
open Kd
def epitomelaw12_UnderAll.f (k : Nat) (l0 : List (S26)) (l1 : List (S26)) (a2 : Int) : Option (Bool) := (epitomelaw12_shown.f k).bind fun t101 => ((epitomeref04_Fit.f k l0 (wrap64 (Int.tmod a2 64))).bind fun t102 => ((epitomeref04_Fit.f k l1 (wrap64 (Int.tmod a2 64))).bind fun t105 => ((under_Of.f k t102 t105).bind fun bt108 => ((epitomeref12_Of.f k t102 t105).bind fun bt112 => ((epitomelaw12_few.f k l0).bind fun t116 => ((epitomelaw12_few.f k l1).bind fun t119 => ((under_Of.f k t116 t119).bind fun bt122 => ((epitomelaw12_few.f k l0).bind fun t126 => ((epitomelaw12_few.f k l1).bind fun t129 => ((epitomeref12_Of.f k t126 t129).bind fun bt132 => ((under_Meet.f k t105 t102).bind fun bt136 => ((epitomeref11_Of.f k t105 t102).bind fun bt143 => ((epitomelaw12_few.f k l1).bind fun t147 => ((epitomelaw12_few.f k l0).bind fun t150 => ((under_Meet.f k t147 t150).bind fun bt153 => ((epitomelaw12_few.f k l1).bind fun t160 => ((epitomelaw12_few.f k l0).bind fun t163 => ((epitomeref11_Of.f k t160 t163).bind fun bt166 => (if t101 = true then ((epitomeref04_Same.f k bt108.1 bt112.1).bind fun t170 => (if t170 = true then (if bt108.2 = bt112.2 then ((epitomeref04_Same.f k bt122.1 bt132.1).bind fun t171 => (if t171 = true then (if bt122.2 = bt132.2 then ((epitomeref04_Same.f k bt136.1 bt143.1).bind fun t172 => (if t172 = true then ((epitomeref04_Same.f k bt136.2.1 bt112.1).bind fun t173 => (if t173 = true then (if bt136.2.2 = bt143.2 then (some (bt153.2.2 == bt166.2)) else (some false)) else (some false))) else (some false))) else (some false)) else (some false))) else (some false)) else (some false))) else (some false))))))))))))))))))))
set_option maxHeartbeats 40000000 in
set_option maxRecDepth 100000 in
theorem epitomelaw12_UnderAll.calls (k : Nat) (A0 : Option Addr) (c0 : Nat) (l0 : List (S26)) (A1 : Option Addr) (c1 : Nat) (l1 : List (S26)) (a2 : Int) (r : Bool) (hr_ : Aside0 (r = true)) (w : World) (hG : Glob w) (hr0 : Kd.C k26 w A0 l0.length l0) (hc0 : l0.length ≤ c0) (hr1 : Kd.C k26 w A1 l1.length l1) (hc1 : l1.length ≤ c1) (h : epitomelaw12_UnderAll.f k l0 l1 a2 = some r) :
  Calls Tryd.prog 4 #[.slice A0 l0.length c0, .slice A1 l1.length c1, .int .u8 a2] w fun e w' => e = .returned (.bool r) ∧ Below w.heap.size w w' := by
 have HG := Am hG;clear hG;have HR0 := Am hr0;have HC0 := Am hc0;clear hr0 hc0;have HR1 := Am hr1;have HC1 := Am hc1;clear hr1 hc1;have HB := Am (Below.refl w.heap.size w)
 have H : ((epitomelaw12_shown.f k).bind fun t101 => ((epitomeref04_Fit.f k l0 (wrap64 (Int.tmod a2 64))).bind fun t102 => ((epitomeref04_Fit.f k l1 (wrap64 (Int.tmod a2 64))).bind fun t105 => ((under_Of.f k t102 t105).bind fun bt108 => ((epitomeref12_Of.f k t102 t105).bind fun bt112 => ((epitomelaw12_few.f k l0).bind fun t116 => ((epitomelaw12_few.f k l1).bind fun t119 => ((under_Of.f k t116 t119).bind fun bt122 => ((epitomelaw12_few.f k l0).bind fun t126 => ((epitomelaw12_few.f k l1).bind fun t129 => ((epitomeref12_Of.f k t126 t129).bind fun bt132 => ((under_Meet.f k t105 t102).bind fun bt136 => ((epitomeref11_Of.f k t105 t102).bind fun bt143 => ((epitomelaw12_few.f k l1).bind fun t147 => ((epitomelaw12_few.f k l0).bind fun t150 => ((under_Meet.f k t147 t150).bind fun bt153 => ((epitomelaw12_few.f k l1).bind fun t160 => ((epitomelaw12_few.f k l0).bind fun t163 => ((epitomeref11_Of.f k t160 t163).bind fun bt166 => (if t101 = true then ((epitomeref04_Same.f k bt108.1 bt112.1).bind fun t170 => (if t170 = true then (if bt108.2 = bt112.2 then ((epitomeref04_Same.f k bt122.1 bt132.1).bind fun t171 => (if t171 = true then (if bt122.2 = bt132.2 then ((epitomeref04_Same.f k bt136.1 bt143.1).bind fun t172 => (if t172 = true then ((epitomeref04_Same.f k bt136.2.1 bt112.1).bind fun t173 => (if t173 = true then (if bt136.2.2 = bt143.2 then (some (bt153.2.2 == bt166.2)) else (some false)) else (some false))) else (some false))) else (some false)) else (some false))) else (some false)) else (some false))) else (some false))))))))))))))))))))) = some r := h
 clear h;replace H := Option.bind_eq_some_iff.mp H;obtain ⟨t101, A40, H⟩ := H;have A4 := Am A40;clear A40;replace H := Option.bind_eq_some_iff.mp H;obtain ⟨t102, A50, H⟩ := H;have A5 := Am A50;clear A50;replace H := Option.bind_eq_some_iff.mp H;obtain ⟨t105, A60, H⟩ := H;have A6 := Am A60;clear A60;replace H := Option.bind_eq_some_iff.mp H;obtain ⟨⟨t108, t109⟩, A70, H⟩ := H;have A7 := Am A70;clear A70;replace H := Option.bind_eq_some_iff.mp H;obtain ⟨⟨t112, t113⟩, A80, H⟩ := H;have A8 := Am A80;clear A80;replace H := Option.bind_eq_some_iff.mp H;obtain ⟨t116, A90, H⟩ := H;have A9 := Am A90;clear A90;replace H := Option.bind_eq_some_iff.mp H;obtain ⟨t119, A100, H⟩ := H;have A10 := Am A100;clear A100;replace H := Option.bind_eq_some_iff.mp H;obtain ⟨⟨t122, t123⟩, A110, H⟩ := H;have A11 := Am A110;clear A110;replace H := Option.bind_eq_some_iff.mp H;obtain ⟨t126, A120, H⟩ := H;have A12 := Am A120;clear A120;replace H := Option.bind_eq_some_iff.mp H;obtain ⟨t129, A130, H⟩ := H;have A13 := Am A130;clear A130;replace H := Option.bind_eq_some_iff.mp H;obtain ⟨⟨t132, t133⟩, A140, H⟩ := H;have A14 := Am A140;clear A140;replace H := Option.bind_eq_some_iff.mp H;obtain ⟨⟨t136, t137, t138⟩, A150, H⟩ := H;have A15 := Am A150;clear A150;replace H := Option.bind_eq_some_iff.mp H;obtain ⟨⟨t143, t144⟩, A160, H⟩ := H;have A16 := Am A160;clear A160;replace H := Option.bind_eq_some_iff.mp H;obtain ⟨t147, A170, H⟩ := H;have A17 := Am A170;clear A170;replace H := Option.bind_eq_some_iff.mp H;obtain ⟨t150, A180, H⟩ := H;have A18 := Am A180;clear A180;replace H := Option.bind_eq_some_iff.mp H;obtain ⟨⟨t153, t154, t155⟩, A190, H⟩ := H;have A19 := Am A190;clear A190;replace H := Option.bind_eq_some_iff.mp H;obtain ⟨t160, A200, H⟩ := H;have A20 := Am A200;clear A200;replace H := Option.bind_eq_some_iff.mp H;obtain ⟨t163, A210, H⟩ := H;have A21 := Am A210;clear A210;replace H := Option.bind_eq_some_iff.mp H;obtain ⟨⟨t166, t167⟩, A220, H⟩ := H;have A22 := Am A220;clear A220;by_cases c23 : t101 = true
 ·subst c23
  have H1 : ((epitomeref04_Same.f k t108 t112).bind fun t170 => (if t170 = true then (if t109 = t113 then ((epitomeref04_Same.f k t122 t132).bind fun t171 => (if t171 = true then (if t123 = t133 then ((epitomeref04_Same.f k t136 t143).bind fun t172 => (if t172 = true then ((epitomeref04_Same.f k t137 t112).bind fun t173 => (if t173 = true then (if t138 = t144 then (some (t155 == t167)) else (some false)) else (some false))) else (some false))) else (some false)) else (some false))) else (some false)) else (some false))) = some r := by rw [if_pos rfl] at H; exact H
  clear H;have H := H1
  clear H1;replace H := Option.bind_eq_some_iff.mp H;obtain ⟨t170, A240, H⟩ := H;have A24 := Am A240;clear A240;by_cases c25 : t170 = true
  ·subst c25
   have H1 : (if t109 = t113 then ((epitomeref04_Same.f k t122 t132).bind fun t171 => (if t171 = true then (if t123 = t133 then ((epitomeref04_Same.f k t136 t143).bind fun t172 => (if t172 = true then ((epitomeref04_Same.f k t137 t112).bind fun t173 => (if t173 = true then (if t138 = t144 then (some (t155 == t167)) else (some false)) else (some false))) else (some false))) else (some false)) else (some false))) else (some false)) = some r := by rw [if_pos rfl] at H; exact H
   clear H;have H := H1
   clear H1;by_cases c26 : t109 = t113
   ·rw [if_pos c26] at H;have c26b0 : (t109 == t113) = true := beq_iff_eq.mpr c26
    have c26b1 : (t109 != t113) = false := bne_eq_false_iff_eq.mpr c26
    clear c26;replace H := Option.bind_eq_some_iff.mp H;obtain ⟨t171, A270, H⟩ := H;have A27 := Am A270;clear A270;by_cases c28 : t171 = true
    ·subst c28
     have H1 : (if t123 = t133 then ((epitomeref04_Same.f k t136 t143).bind fun t172 => (if t172 = true then ((epitomeref04_Same.f k t137 t112).bind fun t173 => (if t173 = true then (if t138 = t144 then (some (t155 == t167)) else (some false)) else (some false))) else (some false))) else (some false)) = some r := by rw [if_pos rfl] at H; exact H
     clear H;have H := H1
     clear H1;by_cases c29 : t123 = t133
     ·rw [if_pos c29] at H;have c29b0 : (t123 == t133) = true := beq_iff_eq.mpr c29
      have c29b1 : (t123 != t133) = false := bne_eq_false_iff_eq.mpr c29
      clear c29;replace H := Option.bind_eq_some_iff.mp H;obtain ⟨t172, A300, H⟩ := H;have A30 := Am A300;clear A300;by_cases c31 : t172 = true
      ·subst c31
       have H1 : ((epitomeref04_Same.f k t137 t112).bind fun t173 => (if t173 = true then (if t138 = t144 then (some (t155 == t167)) else (some false)) else (some false))) = some r := by rw [if_pos rfl] at H; exact H
       clear H;have H := H1
       clear H1;replace H := Option.bind_eq_some_iff.mp H;obtain ⟨t173, A320, H⟩ := H;have A32 := Am A320;clear A320;by_cases c33 : t173 = true
       ·subst c33
        have H1 : (if t138 = t144 then (some (t155 == t167)) else (some false)) = some r := by rw [if_pos rfl] at H; exact H
        clear H;have H := H1
        clear H1;by_cases c34 : t138 = t144
        ·rw [if_pos c34] at H;have c34b0 : (t138 == t144) = true := beq_iff_eq.mpr c34
         have c34b1 : (t138 != t144) = false := bne_eq_false_iff_eq.mpr c34
         clear c34;obtain rfl := Option.some.inj H;go_enter Tryd.func4, Tryd.ntmps4
         go_wp2_with (first | ((with_reducible refine gate_callee (f := 13) rfl ?_); refine goesL_ (some 29) rfl rfl Tryd.func13 (by kernel_rfl) rfl #[] rfl zE ?_; (with_reducible refine (epitomelaw12_shown.calls k  true _ ?side1 A4.out).mono ?_); (case side1 => exact zg HG HB); rintro e w35 ⟨rfl, hb⟩; refine ⟨_, rfl, ?_⟩; replace HB := Am (below_step (zB HB) hb); (try clear hb)) | ((with_reducible refine gate_callee (f := 20) rfl ?_); refine goesL_ (some 35) rfl rfl Tryd.func20 (by kernel_rfl) rfl #[.slice A0 l0.length c0, .int .i64 (wrap64 (Int.tmod a2 64))] rfl zE ?_; (with_reducible refine (epitomeref04_Fit.calls k _ _ l0 (wrap64 (Int.tmod a2 64)) t102 _ ?side1 ?side2 A5.out).mono ?_); (case side1 => exact zI (C_below HR0.out HB.out)); (case side2 => exact HC0.out); rintro e w36 ⟨v103, rfl, ho0, hb⟩; refine ⟨_, rfl, ?_⟩; have HO104 := Am (R_lower ho0 (below_size (zB HB)));replace HB := Am (below_step (zB HB) hb); (try clear hb); (try clear ho0); (try clear A5)) | ((with_reducible refine gate_callee (f := 20) rfl ?_); refine goesL_ (some 38) rfl rfl Tryd.func20 (by kernel_rfl) rfl #[.slice A1 l1.length c1, .int .i64 (wrap64 (Int.tmod a2 64))] rfl zE ?_; (with_reducible refine (epitomeref04_Fit.calls k _ _ l1 (wrap64 (Int.tmod a2 64)) t105 _ ?side1 ?side2 A6.out).mono ?_); (case side1 => exact zI (C_below HR1.out HB.out)); (case side2 => exact HC1.out); rintro e w37 ⟨v106, rfl, ho0, hb⟩; refine ⟨_, rfl, ?_⟩; have HO107 := Am (R_lower (zn ho0 HO104) (below_size (zB HB)));replace HO104 := Am (zr HO104 ho0 hb);replace HB := Am (below_step (zB HB) hb); (try clear hb); (try clear ho0); obtain ⟨Ao38, co38, eo38⟩ := R_slice HO104.out; subst eo38; obtain ⟨Ao39, co39, eo39⟩ := R_slice HO107.out; subst eo39; (try clear A6)) | ((with_reducible refine gate_callee (f := 16) rfl ?_); refine goesL_ (some 42) rfl rfl Tryd.func16 (by kernel_rfl) rfl #[.slice Ao38 t102.length co38, .slice Ao39 t105.length co39] rfl zE ?_; (with_reducible refine (under_Of.calls k _ _ t102 _ _ t105 t108 t109 _ ?side1 ?side2 ?side3 ?side4 ?side5 A7.out).mono ?_); (case side1 => exact zg HG HB); (case side2 => exact zI (R_reads' HO104.out).2.2); (case side3 => exact (R_reads' HO104.out).2.1); (case side4 => exact zI (R_reads' HO107.out).2.2); (case side5 => exact (R_reads' HO107.out).2.1); rintro e w40 ⟨v110, rfl, ho0, hb⟩; refine ⟨_, rfl, ?_⟩; have HO111 := Am (R_lower (zn (zn ho0 HO104) HO107) (below_size (zB HB)));replace HO104 := Am (zr HO104 ho0 hb);replace HO107 := Am (zr HO107 ho0 hb);replace HB := Am (below_step (zB HB) hb); (try clear hb); (try clear ho0); (try clear A7)) | ((with_reducible refine gate_callee (f := 21) rfl ?_); refine goesL_ (some 48) rfl rfl Tryd.func21 (by kernel_rfl) rfl #[.slice Ao38 t102.length co38, .slice Ao39 t105.length co39] rfl zE ?_; (with_reducible refine (epitomeref12_Of.calls k _ _ t102 _ _ t105 t112 t113 _ ?side1 ?side2 ?side3 ?side4 A8.out).mono ?_); (case side1 => exact zI (R_reads' HO104.out).2.2); (case side2 => exact (R_reads' HO104.out).2.1); (case side3 => exact zI (R_reads' HO107.out).2.2); (case side4 => exact (R_reads' HO107.out).2.1); rintro e w41 ⟨v114, rfl, ho0, hb⟩; refine ⟨_, rfl, ?_⟩; have HO115 := Am (R_lower (zn (zn (zn ho0 HO104) HO107) HO111) (below_size (zB HB)));replace HO104 := Am (zr HO104 ho0 hb);replace HO107 := Am (zr HO107 ho0 hb);replace HO111 := Am (zr HO111 ho0 hb);replace HB := Am (below_step (zB HB) hb); (try clear hb); (try clear ho0); (try clear A8)) | ((with_reducible refine gate_callee (f := 22) rfl ?_); refine goesL_ (some 53) rfl rfl Tryd.func22 (by kernel_rfl) rfl #[.slice A0 l0.length c0] rfl zE ?_; (with_reducible refine (epitomelaw12_few.calls k _ _ l0 t116 _ ?side1 ?side2 A9.out).mono ?_); (case side1 => exact zI (C_below HR0.out HB.out)); (case side2 => exact HC0.out); rintro e w42 ⟨v117, rfl, ho0, hb⟩; refine ⟨_, rfl, ?_⟩; have HO118 := Am (R_lower (zn (zn (zn (zn ho0 HO104) HO107) HO111) HO115) (below_size (zB HB)));replace HO104 := Am (zr HO104 ho0 hb);replace HO107 := Am (zr HO107 ho0 hb);replace HO111 := Am (zr HO111 ho0 hb);replace HO115 := Am (zr HO115 ho0 hb);replace HB := Am (below_step (zB HB) hb); (try clear hb); (try clear ho0); (try clear A9)) | ((with_reducible refine gate_callee (f := 22) rfl ?_); refine goesL_ (some 55) rfl rfl Tryd.func22 (by kernel_rfl) rfl #[.slice A1 l1.length c1] rfl zE ?_; (with_reducible refine (epitomelaw12_few.calls k _ _ l1 t119 _ ?side1 ?side2 A10.out).mono ?_); (case side1 => exact zI (C_below HR1.out HB.out)); (case side2 => exact HC1.out); rintro e w43 ⟨v120, rfl, ho0, hb⟩; refine ⟨_, rfl, ?_⟩; have HO121 := Am (R_lower (zn (zn (zn (zn (zn ho0 HO104) HO107) HO111) HO115) HO118) (below_size (zB HB)));replace HO104 := Am (zr HO104 ho0 hb);replace HO107 := Am (zr HO107 ho0 hb);replace HO111 := Am (zr HO111 ho0 hb);replace HO115 := Am (zr HO115 ho0 hb);replace HO118 := Am (zr HO118 ho0 hb);replace HB := Am (below_step (zB HB) hb); (try clear hb); (try clear ho0); obtain ⟨Ao44, co44, eo44⟩ := R_slice HO118.out; subst eo44; obtain ⟨Ao45, co45, eo45⟩ := R_slice HO121.out; subst eo45; (try clear A10)) | ((with_reducible refine gate_callee (f := 16) rfl ?_); refine goesL_ (some 56) rfl rfl Tryd.func16 (by kernel_rfl) rfl #[.slice Ao44 t116.length co44, .slice Ao45 t119.length co45] rfl zE ?_; (with_reducible refine (under_Of.calls k _ _ t116 _ _ t119 t122 t123 _ ?side1 ?side2 ?side3 ?side4 ?side5 A11.out).mono ?_); (case side1 => exact zg HG HB); (case side2 => exact zI (R_reads' HO118.out).2.2); (case side3 => exact (R_reads' HO118.out).2.1); (case side4 => exact zI (R_reads' HO121.out).2.2); (case side5 => exact (R_reads' HO121.out).2.1); rintro e w46 ⟨v124, rfl, ho0, hb⟩; refine ⟨_, rfl, ?_⟩; have HO125 := Am (R_lower (zn (zn (zn (zn (zn (zn ho0 HO104) HO107) HO111) HO115) HO118) HO121) (below_size (zB HB)));replace HO104 := Am (zr HO104 ho0 hb);replace HO107 := Am (zr HO107 ho0 hb);replace HO111 := Am (zr HO111 ho0 hb);replace HO115 := Am (zr HO115 ho0 hb);replace HO118 := Am (zr HO118 ho0 hb);replace HO121 := Am (zr HO121 ho0 hb);replace HB := Am (below_step (zB HB) hb); (try clear hb); (try clear ho0); (try clear A11)) | ((with_reducible refine gate_callee (f := 22) rfl ?_); refine goesL_ (some 61) rfl rfl Tryd.func22 (by kernel_rfl) rfl #[.slice A0 l0.length c0] rfl zE ?_; (with_reducible refine (epitomelaw12_few.calls k _ _ l0 t126 _ ?side1 ?side2 A12.out).mono ?_); (case side1 => exact zI (C_below HR0.out HB.out)); (case side2 => exact HC0.out); rintro e w47 ⟨v127, rfl, ho0, hb⟩; refine ⟨_, rfl, ?_⟩; have HO128 := Am (R_lower (zn (zn (zn (zn (zn (zn (zn ho0 HO104) HO107) HO111) HO115) HO118) HO121) HO125) (below_size (zB HB)));replace HO104 := Am (zr HO104 ho0 hb);replace HO107 := Am (zr HO107 ho0 hb);replace HO111 := Am (zr HO111 ho0 hb);replace HO115 := Am (zr HO115 ho0 hb);replace HO118 := Am (zr HO118 ho0 hb);replace HO121 := Am (zr HO121 ho0 hb);replace HO125 := Am (zr HO125 ho0 hb);replace HB := Am (below_step (zB HB) hb); (try clear hb); (try clear ho0); (try clear A12)) | ((with_reducible refine gate_callee (f := 22) rfl ?_); refine goesL_ (some 63) rfl rfl Tryd.func22 (by kernel_rfl) rfl #[.slice A1 l1.length c1] rfl zE ?_; (with_reducible refine (epitomelaw12_few.calls k _ _ l1 t129 _ ?side1 ?side2 A13.out).mono ?_); (case side1 => exact zI (C_below HR1.out HB.out)); (case side2 => exact HC1.out); rintro e w48 ⟨v130, rfl, ho0, hb⟩; refine ⟨_, rfl, ?_⟩; have HO131 := Am (R_lower (zn (zn (zn (zn (zn (zn (zn (zn ho0 HO104) HO107) HO111) HO115) HO118) HO121) HO125) HO128) (below_size (zB HB)));replace HO104 := Am (zr HO104 ho0 hb);replace HO107 := Am (zr HO107 ho0 hb);replace HO111 := Am (zr HO111 ho0 hb);replace HO115 := Am (zr HO115 ho0 hb);replace HO118 := Am (zr HO118 ho0 hb);replace HO121 := Am (zr HO121 ho0 hb);replace HO125 := Am (zr HO125 ho0 hb);replace HO128 := Am (zr HO128 ho0 hb);replace HB := Am (below_step (zB HB) hb); (try clear hb); (try clear ho0); obtain ⟨Ao49, co49, eo49⟩ := R_slice HO128.out; subst eo49; obtain ⟨Ao50, co50, eo50⟩ := R_slice HO131.out; subst eo50; (try clear A13)) | ((with_reducible refine gate_callee (f := 21) rfl ?_); refine goesL_ (some 64) rfl rfl Tryd.func21 (by kernel_rfl) rfl #[.slice Ao49 t126.length co49, .slice Ao50 t129.length co50] rfl zE ?_; (with_reducible refine (epitomeref12_Of.calls k _ _ t126 _ _ t129 t132 t133 _ ?side1 ?side2 ?side3 ?side4 A14.out).mono ?_); (case side1 => exact zI (R_reads' HO128.out).2.2); (case side2 => exact (R_reads' HO128.out).2.1); (case side3 => exact zI (R_reads' HO131.out).2.2); (case side4 => exact (R_reads' HO131.out).2.1); rintro e w51 ⟨v134, rfl, ho0, hb⟩; refine ⟨_, rfl, ?_⟩; have HO135 := Am (R_lower (zn (zn (zn (zn (zn (zn (zn (zn (zn ho0 HO104) HO107) HO111) HO115) HO118) HO121) HO125) HO128) HO131) (below_size (zB HB)));replace HO104 := Am (zr HO104 ho0 hb);replace HO107 := Am (zr HO107 ho0 hb);replace HO111 := Am (zr HO111 ho0 hb);replace HO115 := Am (zr HO115 ho0 hb);replace HO118 := Am (zr HO118 ho0 hb);replace HO121 := Am (zr HO121 ho0 hb);replace HO125 := Am (zr HO125 ho0 hb);replace HO128 := Am (zr HO128 ho0 hb);replace HO131 := Am (zr HO131 ho0 hb);replace HB := Am (below_step (zB HB) hb); (try clear hb); (try clear ho0); (try clear A14)) | ((with_reducible refine gate_callee (f := 23) rfl ?_); refine goesL_ (some 70) rfl rfl Tryd.func23 (by kernel_rfl) rfl #[.slice Ao39 t105.length co39, .slice Ao38 t102.length co38] rfl zE ?_; (with_reducible refine (under_Meet.calls k _ _ t105 _ _ t102 t136 t137 t138 _ ?side1 ?side2 ?side3 ?side4 ?side5 A15.out).mono ?_); (case side1 => exact zg HG HB); (case side2 => exact zI (R_reads' HO107.out).2.2); (case side3 => exact (R_reads' HO107.out).2.1); (case side4 => exact zI (R_reads' HO104.out).2.2); (case side5 => exact (R_reads' HO104.out).2.1); rintro e w52 ⟨v139, v141, rfl, ho0, ho1, hb⟩; refine ⟨_, rfl, ?_⟩; have HO140 := Am (R_lower (zn (zn (zn (zn (zn (zn (zn (zn (zn (zn ho0 HO104) HO107) HO111) HO115) HO118) HO121) HO125) HO128) HO131) HO135) (below_size (zB HB)));have HO142 := Am (R_lower (zn (zn (zn (zn (zn (zn (zn (zn (zn (zn ho1 HO104) HO107) HO111) HO115) HO118) HO121) HO125) HO128) HO131) HO135) (below_size (zB HB)));replace HO104 := Am (R_mono (R_told (R_told (R_old (zR HO104) hb) (R_base ho0)) (R_base ho1)) (fun _ h_ => h_.1));replace HO107 := Am (R_mono (R_told (R_told (R_old (zR HO107) hb) (R_base ho0)) (R_base ho1)) (fun _ h_ => h_.1));replace HO111 := Am (R_mono (R_told (R_told (R_old (zR HO111) hb) (R_base ho0)) (R_base ho1)) (fun _ h_ => h_.1));replace HO115 := Am (R_mono (R_told (R_told (R_old (zR HO115) hb) (R_base ho0)) (R_base ho1)) (fun _ h_ => h_.1));replace HO118 := Am (R_mono (R_told (R_told (R_old (zR HO118) hb) (R_base ho0)) (R_base ho1)) (fun _ h_ => h_.1));replace HO121 := Am (R_mono (R_told (R_told (R_old (zR HO121) hb) (R_base ho0)) (R_base ho1)) (fun _ h_ => h_.1));replace HO125 := Am (R_mono (R_told (R_told (R_old (zR HO125) hb) (R_base ho0)) (R_base ho1)) (fun _ h_ => h_.1));replace HO128 := Am (R_mono (R_told (R_told (R_old (zR HO128) hb) (R_base ho0)) (R_base ho1)) (fun _ h_ => h_.1));replace HO131 := Am (R_mono (R_told (R_told (R_old (zR HO131) hb) (R_base ho0)) (R_base ho1)) (fun _ h_ => h_.1));replace HO135 := Am (R_mono (R_told (R_told (R_old (zR HO135) hb) (R_base ho0)) (R_base ho1)) (fun _ h_ => h_.1));replace HB := Am (below_step (zB HB) hb); (try clear hb); (try clear ho0); (try clear ho1); (try clear A15)) | ((with_reducible refine gate_callee (f := 24) rfl ?_); refine goesL_ (some 77) rfl rfl Tryd.func24 (by kernel_rfl) rfl #[.slice Ao39 t105.length co39, .slice Ao38 t102.length co38] rfl zE ?_; (with_reducible refine (epitomeref11_Of.calls k _ _ t105 _ _ t102 t143 t144 _ ?side1 ?side2 ?side3 ?side4 A16.out).mono ?_); (case side1 => exact zI (R_reads' HO107.out).2.2); (case side2 => exact (R_reads' HO107.out).2.1); (case side3 => exact zI (R_reads' HO104.out).2.2); (case side4 => exact (R_reads' HO104.out).2.1); rintro e w53 ⟨v145, rfl, ho0, hb⟩; refine ⟨_, rfl, ?_⟩; have HO146 := Am (R_lower (zn (zn (zn (zn (zn (zn (zn (zn (zn (zn (zn (zn ho0 HO104) HO107) HO111) HO115) HO118) HO121) HO125) HO128) HO131) HO135) HO140) HO142) (below_size (zB HB)));replace HO104 := Am (zr HO104 ho0 hb);replace HO107 := Am (zr HO107 ho0 hb);replace HO111 := Am (zr HO111 ho0 hb);replace HO115 := Am (zr HO115 ho0 hb);replace HO118 := Am (zr HO118 ho0 hb);replace HO121 := Am (zr HO121 ho0 hb);replace HO125 := Am (zr HO125 ho0 hb);replace HO128 := Am (zr HO128 ho0 hb);replace HO131 := Am (zr HO131 ho0 hb);replace HO135 := Am (zr HO135 ho0 hb);replace HO140 := Am (zr HO140 ho0 hb);replace HO142 := Am (zr HO142 ho0 hb);replace HB := Am (below_step (zB HB) hb); (try clear hb); (try clear ho0); (try clear A16)) | ((with_reducible refine gate_callee (f := 22) rfl ?_); refine goesL_ (some 82) rfl rfl Tryd.func22 (by kernel_rfl) rfl #[.slice A1 l1.length c1] rfl zE ?_; (with_reducible refine (epitomelaw12_few.calls k _ _ l1 t147 _ ?side1 ?side2 A17.out).mono ?_); (case side1 => exact zI (C_below HR1.out HB.out)); (case side2 => exact HC1.out); rintro e w54 ⟨v148, rfl, ho0, hb⟩; refine ⟨_, rfl, ?_⟩; have HO149 := Am (R_lower (zn (zn (zn (zn (zn (zn (zn (zn (zn (zn (zn (zn (zn ho0 HO104) HO107) HO111) HO115) HO118) HO121) HO125) HO128) HO131) HO135) HO140) HO142) HO146) (below_size (zB HB)));replace HO104 := Am (zr HO104 ho0 hb);replace HO107 := Am (zr HO107 ho0 hb);replace HO111 := Am (zr HO111 ho0 hb);replace HO115 := Am (zr HO115 ho0 hb);replace HO118 := Am (zr HO118 ho0 hb);replace HO121 := Am (zr HO121 ho0 hb);replace HO125 := Am (zr HO125 ho0 hb);replace HO128 := Am (zr HO128 ho0 hb);replace HO131 := Am (zr HO131 ho0 hb);replace HO135 := Am (zr HO135 ho0 hb);replace HO140 := Am (zr HO140 ho0 hb);replace HO142 := Am (zr HO142 ho0 hb);replace HO146 := Am (zr HO146 ho0 hb);replace HB := Am (below_step (zB HB) hb); (try clear hb); (try clear ho0); (try clear A17)) | ((with_reducible refine gate_callee (f := 22) rfl ?_); refine goesL_ (some 84) rfl rfl Tryd.func22 (by kernel_rfl) rfl #[.slice A0 l0.length c0] rfl zE ?_; (with_reducible refine (epitomelaw12_few.calls k _ _ l0 t150 _ ?side1 ?side2 A18.out).mono ?_); (case side1 => exact zI (C_below HR0.out HB.out)); (case side2 => exact HC0.out); rintro e w55 ⟨v151, rfl, ho0, hb⟩; refine ⟨_, rfl, ?_⟩; have HO152 := Am (R_lower (zn (zn (zn (zn (zn (zn (zn (zn (zn (zn (zn (zn (zn (zn ho0 HO104) HO107) HO111) HO115) HO118) HO121) HO125) HO128) HO131) HO135) HO140) HO142) HO146) HO149) (below_size (zB HB)));replace HO104 := Am (zr HO104 ho0 hb);replace HO107 := Am (zr HO107 ho0 hb);replace HO111 := Am (zr HO111 ho0 hb);replace HO115 := Am (zr HO115 ho0 hb);replace HO118 := Am (zr HO118 ho0 hb);replace HO121 := Am (zr HO121 ho0 hb);replace HO125 := Am (zr HO125 ho0 hb);replace HO128 := Am (zr HO128 ho0 hb);replace HO131 := Am (zr HO131 ho0 hb);replace HO135 := Am (zr HO135 ho0 hb);replace HO140 := Am (zr HO140 ho0 hb);replace HO142 := Am (zr HO142 ho0 hb);replace HO146 := Am (zr HO146 ho0 hb);replace HO149 := Am (zr HO149 ho0 hb);replace HB := Am (below_step (zB HB) hb); (try clear hb); (try clear ho0); obtain ⟨Ao56, co56, eo56⟩ := R_slice HO149.out; subst eo56; obtain ⟨Ao57, co57, eo57⟩ := R_slice HO152.out; subst eo57; (try clear A18)) | ((with_reducible refine gate_callee (f := 23) rfl ?_); refine goesL_ (some 85) rfl rfl Tryd.func23 (by kernel_rfl) rfl #[.slice Ao56 t147.length co56, .slice Ao57 t150.length co57] rfl zE ?_; (with_reducible refine (under_Meet.calls k _ _ t147 _ _ t150 t153 t154 t155 _ ?side1 ?side2 ?side3 ?side4 ?side5 A19.out).mono ?_); (case side1 => exact zg HG HB); (case side2 => exact zI (R_reads' HO149.out).2.2); (case side3 => exact (R_reads' HO149.out).2.1); (case side4 => exact zI (R_reads' HO152.out).2.2); (case side5 => exact (R_reads' HO152.out).2.1); rintro e w58 ⟨v156, v158, rfl, ho0, ho1, hb⟩; refine ⟨_, rfl, ?_⟩; have HO157 := Am (R_lower (zn (zn (zn (zn (zn (zn (zn (zn (zn (zn (zn (zn (zn (zn (zn ho0 HO104) HO107) HO111) HO115) HO118) HO121) HO125) HO128) HO131) HO135) HO140) HO142) HO146) HO149) HO152) (below_size (zB HB)));have HO159 := Am (R_lower (zn (zn (zn (zn (zn (zn (zn (zn (zn (zn (zn (zn (zn (zn (zn ho1 HO104) HO107) HO111) HO115) HO118) HO121) HO125) HO128) HO131) HO135) HO140) HO142) HO146) HO149) HO152) (below_size (zB HB)));replace HO104 := Am (R_mono (R_told (R_told (R_old (zR HO104) hb) (R_base ho0)) (R_base ho1)) (fun _ h_ => h_.1));replace HO107 := Am (R_mono (R_told (R_told (R_old (zR HO107) hb) (R_base ho0)) (R_base ho1)) (fun _ h_ => h_.1));replace HO111 := Am (R_mono (R_told (R_told (R_old (zR HO111) hb) (R_base ho0)) (R_base ho1)) (fun _ h_ => h_.1));replace HO115 := Am (R_mono (R_told (R_told (R_old (zR HO115) hb) (R_base ho0)) (R_base ho1)) (fun _ h_ => h_.1));replace HO118 := Am (R_mono (R_told (R_told (R_old (zR HO118) hb) (R_base ho0)) (R_base ho1)) (fun _ h_ => h_.1));replace HO121 := Am (R_mono (R_told (R_told (R_old (zR HO121) hb) (R_base ho0)) (R_base ho1)) (fun _ h_ => h_.1));replace HO125 := Am (R_mono (R_told (R_told (R_old (zR HO125) hb) (R_base ho0)) (R_base ho1)) (fun _ h_ => h_.1));replace HO128 := Am (R_mono (R_told (R_told (R_old (zR HO128) hb) (R_base ho0)) (R_base ho1)) (fun _ h_ => h_.1));replace HO131 := Am (R_mono (R_told (R_told (R_old (zR HO131) hb) (R_base ho0)) (R_base ho1)) (fun _ h_ => h_.1));replace HO135 := Am (R_mono (R_told (R_told (R_old (zR HO135) hb) (R_base ho0)) (R_base ho1)) (fun _ h_ => h_.1));replace HO140 := Am (R_mono (R_told (R_told (R_old (zR HO140) hb) (R_base ho0)) (R_base ho1)) (fun _ h_ => h_.1));replace HO142 := Am (R_mono (R_told (R_told (R_old (zR HO142) hb) (R_base ho0)) (R_base ho1)) (fun _ h_ => h_.1));replace HO146 := Am (R_mono (R_told (R_told (R_old (zR HO146) hb) (R_base ho0)) (R_base ho1)) (fun _ h_ => h_.1));replace HO149 := Am (R_mono (R_told (R_told (R_old (zR HO149) hb) (R_base ho0)) (R_base ho1)) (fun _ h_ => h_.1));replace HO152 := Am (R_mono (R_told (R_told (R_old (zR HO152) hb) (R_base ho0)) (R_base ho1)) (fun _ h_ => h_.1));replace HB := Am (below_step (zB HB) hb); (try clear hb); (try clear ho0); (try clear ho1); (try clear A19)) | ((with_reducible refine gate_callee (f := 22) rfl ?_); refine goesL_ (some 91) rfl rfl Tryd.func22 (by kernel_rfl) rfl #[.slice A1 l1.length c1] rfl zE ?_; (with_reducible refine (epitomelaw12_few.calls k _ _ l1 t160 _ ?side1 ?side2 A20.out).mono ?_); (case side1 => exact zI (C_below HR1.out HB.out)); (case side2 => exact HC1.out); rintro e w59 ⟨v161, rfl, ho0, hb⟩; refine ⟨_, rfl, ?_⟩; have HO162 := Am (R_lower (zn (zn (zn (zn (zn (zn (zn (zn (zn (zn (zn (zn (zn (zn (zn (zn (zn ho0 HO104) HO107) HO111) HO115) HO118) HO121) HO125) HO128) HO131) HO135) HO140) HO142) HO146) HO149) HO152) HO157) HO159) (below_size (zB HB)));replace HO104 := Am (zr HO104 ho0 hb);replace HO107 := Am (zr HO107 ho0 hb);replace HO111 := Am (zr HO111 ho0 hb);replace HO115 := Am (zr HO115 ho0 hb);replace HO118 := Am (zr HO118 ho0 hb);replace HO121 := Am (zr HO121 ho0 hb);replace HO125 := Am (zr HO125 ho0 hb);replace HO128 := Am (zr HO128 ho0 hb);replace HO131 := Am (zr HO131 ho0 hb);replace HO135 := Am (zr HO135 ho0 hb);replace HO140 := Am (zr HO140 ho0 hb);replace HO142 := Am (zr HO142 ho0 hb);replace HO146 := Am (zr HO146 ho0 hb);replace HO149 := Am (zr HO149 ho0 hb);replace HO152 := Am (zr HO152 ho0 hb);replace HO157 := Am (zr HO157 ho0 hb);replace HO159 := Am (zr HO159 ho0 hb);replace HB := Am (below_step (zB HB) hb); (try clear hb); (try clear ho0); (try clear A20)) | ((with_reducible refine gate_callee (f := 22) rfl ?_); refine goesL_ (some 93) rfl rfl Tryd.func22 (by kernel_rfl) rfl #[.slice A0 l0.length c0] rfl zE ?_; (with_reducible refine (epitomelaw12_few.calls k _ _ l0 t163 _ ?side1 ?side2 A21.out).mono ?_); (case side1 => exact zI (C_below HR0.out HB.out)); (case side2 => exact HC0.out); rintro e w60 ⟨v164, rfl, ho0, hb⟩; refine ⟨_, rfl, ?_⟩; have HO165 := Am (R_lower (zn (zn (zn (zn (zn (zn (zn (zn (zn (zn (zn (zn (zn (zn (zn (zn (zn (zn ho0 HO104) HO107) HO111) HO115) HO118) HO121) HO125) HO128) HO131) HO135) HO140) HO142) HO146) HO149) HO152) HO157) HO159) HO162) (below_size (zB HB)));replace HO104 := Am (zr HO104 ho0 hb);replace HO107 := Am (zr HO107 ho0 hb);replace HO111 := Am (zr HO111 ho0 hb);replace HO115 := Am (zr HO115 ho0 hb);replace HO118 := Am (zr HO118 ho0 hb);replace HO121 := Am (zr HO121 ho0 hb);replace HO125 := Am (zr HO125 ho0 hb);replace HO128 := Am (zr HO128 ho0 hb);replace HO131 := Am (zr HO131 ho0 hb);replace HO135 := Am (zr HO135 ho0 hb);replace HO140 := Am (zr HO140 ho0 hb);replace HO142 := Am (zr HO142 ho0 hb);replace HO146 := Am (zr HO146 ho0 hb);replace HO149 := Am (zr HO149 ho0 hb);replace HO152 := Am (zr HO152 ho0 hb);replace HO157 := Am (zr HO157 ho0 hb);replace HO159 := Am (zr HO159 ho0 hb);replace HO162 := Am (zr HO162 ho0 hb);replace HB := Am (below_step (zB HB) hb); (try clear hb); (try clear ho0); obtain ⟨Ao61, co61, eo61⟩ := R_slice HO162.out; subst eo61; obtain ⟨Ao62, co62, eo62⟩ := R_slice HO165.out; subst eo62; (try clear A21)) | ((with_reducible refine gate_callee (f := 24) rfl ?_); refine goesL_ (some 94) rfl rfl Tryd.func24 (by kernel_rfl) rfl #[.slice Ao61 t160.length co61, .slice Ao62 t163.length co62] rfl zE ?_; (with_reducible refine (epitomeref11_Of.calls k _ _ t160 _ _ t163 t166 t167 _ ?side1 ?side2 ?side3 ?side4 A22.out).mono ?_); (case side1 => exact zI (R_reads' HO162.out).2.2); (case side2 => exact (R_reads' HO162.out).2.1); (case side3 => exact zI (R_reads' HO165.out).2.2); (case side4 => exact (R_reads' HO165.out).2.1); rintro e w63 ⟨v168, rfl, ho0, hb⟩; refine ⟨_, rfl, ?_⟩; have HO169 := Am (R_lower (zn (zn (zn (zn (zn (zn (zn (zn (zn (zn (zn (zn (zn (zn (zn (zn (zn (zn (zn ho0 HO104) HO107) HO111) HO115) HO118) HO121) HO125) HO128) HO131) HO135) HO140) HO142) HO146) HO149) HO152) HO157) HO159) HO162) HO165) (below_size (zB HB)));replace HO104 := Am (zr HO104 ho0 hb);replace HO107 := Am (zr HO107 ho0 hb);replace HO111 := Am (zr HO111 ho0 hb);replace HO115 := Am (zr HO115 ho0 hb);replace HO118 := Am (zr HO118 ho0 hb);replace HO121 := Am (zr HO121 ho0 hb);replace HO125 := Am (zr HO125 ho0 hb);replace HO128 := Am (zr HO128 ho0 hb);replace HO131 := Am (zr HO131 ho0 hb);replace HO135 := Am (zr HO135 ho0 hb);replace HO140 := Am (zr HO140 ho0 hb);replace HO142 := Am (zr HO142 ho0 hb);replace HO146 := Am (zr HO146 ho0 hb);replace HO149 := Am (zr HO149 ho0 hb);replace HO152 := Am (zr HO152 ho0 hb);replace HO157 := Am (zr HO157 ho0 hb);replace HO159 := Am (zr HO159 ho0 hb);replace HO162 := Am (zr HO162 ho0 hb);replace HO165 := Am (zr HO165 ho0 hb);replace HB := Am (below_step (zB HB) hb); (try clear hb); (try clear ho0); obtain ⟨Ao64, co64, eo64⟩ := R_slice HO111.out; subst eo64; obtain ⟨Ao65, co65, eo65⟩ := R_slice HO115.out; subst eo65; (try clear A22)) | (go_at_call 18; (with_reducible refine (epitomeref04_Same.calls k _ _ t108 _ _ t112 true _ ?side1 ?side2 ?side3 ?side4 A24.out).mono ?_); (case side1 => exact zI (R_reads' HO111.out).2.2); (case side2 => exact (R_reads' HO111.out).2.1); (case side3 => exact zI (R_reads' HO115.out).2.2); (case side4 => exact (R_reads' HO115.out).2.1); rintro e w' ⟨rfl, ⟨nd, rfl⟩⟩; obtain ⟨Ao66, co66, eo66⟩ := R_slice HO125.out; subst eo66; obtain ⟨Ao67, co67, eo67⟩ := R_slice HO135.out; subst eo67; (try clear A24)) | (go_at_call 18; (with_reducible refine (epitomeref04_Same.calls k _ _ t122 _ _ t132 true _ ?side1 ?side2 ?side3 ?side4 A27.out).mono ?_); (case side1 => exact zI (R_reads' HO125.out).2.2); (case side2 => exact (R_reads' HO125.out).2.1); (case side3 => exact zI (R_reads' HO135.out).2.2); (case side4 => exact (R_reads' HO135.out).2.1); rintro e w' ⟨rfl, ⟨nd, rfl⟩⟩; obtain ⟨Ao68, co68, eo68⟩ := R_slice HO140.out; subst eo68; obtain ⟨Ao69, co69, eo69⟩ := R_slice HO146.out; subst eo69; (try clear A27)) | (go_at_call 18; (with_reducible refine (epitomeref04_Same.calls k _ _ t136 _ _ t143 true _ ?side1 ?side2 ?side3 ?side4 A30.out).mono ?_); (case side1 => exact zI (R_reads' HO140.out).2.2); (case side2 => exact (R_reads' HO140.out).2.1); (case side3 => exact zI (R_reads' HO146.out).2.2); (case side4 => exact (R_reads' HO146.out).2.1); rintro e w' ⟨rfl, ⟨nd, rfl⟩⟩; obtain ⟨Ao70, co70, eo70⟩ := R_slice HO142.out; subst eo70; (try clear A30)) | (go_at_call 18; (with_reducible refine (epitomeref04_Same.calls k _ _ t137 _ _ t112 true _ ?side1 ?side2 ?side3 ?side4 A32.out).mono ?_); (case side1 => exact zI (R_reads' HO142.out).2.2); (case side2 => exact (R_reads' HO142.out).2.1); (case side3 => exact zI (R_reads' HO115.out).2.2); (case side4 => exact (R_reads' HO115.out).2.1); rintro e w' ⟨rfl, ⟨nd, rfl⟩⟩; (try clear A32)))
         go_ret
         exact ⟨zF, (zB HB)⟩
        ·rw [if_neg c34] at H;have c34b0 : (t138 == t144) = false := beq_eq_false_iff_ne.mpr c34
         have c34b1 : (t138 != t144) = true := bne_iff_ne.mpr c34
         exact Bool.noConfusion ((Option.some.inj H).trans hr_.out)
       ·replace c33 := Bool.eq_false_iff.mpr c33
        subst c33
        have H1 : (some false) = some r := by rw [if_neg (show ¬ (false = true) by decide)] at H; exact H
        clear H;have H := H1
        clear H1;exact Bool.noConfusion ((Option.some.inj H).trans hr_.out)
      ·replace c31 := Bool.eq_false_iff.mpr c31
       subst c31
       have H1 : (some false) = some r := by rw [if_neg (show ¬ (false = true) by decide)] at H; exact H
       clear H;have H := H1
       clear H1;exact Bool.noConfusion ((Option.some.inj H).trans hr_.out)
     ·rw [if_neg c29] at H;have c29b0 : (t123 == t133) = false := beq_eq_false_iff_ne.mpr c29
      have c29b1 : (t123 != t133) = true := bne_iff_ne.mpr c29
      exact Bool.noConfusion ((Option.some.inj H).trans hr_.out)
    ·replace c28 := Bool.eq_false_iff.mpr c28
     subst c28
     have H1 : (some false) = some r := by rw [if_neg (show ¬ (false = true) by decide)] at H; exact H
     clear H;have H := H1
     clear H1;exact Bool.noConfusion ((Option.some.inj H).trans hr_.out)
   ·rw [if_neg c26] at H;have c26b0 : (t109 == t113) = false := beq_eq_false_iff_ne.mpr c26
    have c26b1 : (t109 != t113) = true := bne_iff_ne.mpr c26
    exact Bool.noConfusion ((Option.some.inj H).trans hr_.out)
  ·replace c25 := Bool.eq_false_iff.mpr c25
   subst c25
   have H1 : (some false) = some r := by rw [if_neg (show ¬ (false = true) by decide)] at H; exact H
   clear H;have H := H1
   clear H1;exact Bool.noConfusion ((Option.some.inj H).trans hr_.out)
 ·replace c23 := Bool.eq_false_iff.mpr c23
  subst c23
  have H1 : (some false) = some r := by rw [if_neg (show ¬ (false = true) by decide)] at H; exact H
  clear H;have H := H1
  clear H1;exact Bool.noConfusion ((Option.some.inj H).trans hr_.out)
end Go.Proofs.YtkefbljogjcodaaDoor.F
end
section
namespace Go.Proofs.YtkefbljogjcodaaDoor.F
open Go.RowKit Go.Proofs.YtkefbljogjcodaaDoorW.PrintWords Go.Proofs.YtkefbljogjcodaaDoorW.PrintLast Go.Proofs.YtkefbljogjcodaaDoorW.PrintMore
attribute [local go_sem] max2_int min2_int max_two min_two max_three min_three max_four min_four cell_setCell_isSome
set_option linter.unusedVariables false
set_option linter.unusedSimpArgs false
open Kd
def epitomeref04_Out.l0 : Nat → List (S26) → Int → Int → Option (Int)
  | 0, _, _, _ => none
  | k + 1, x0, x3, x4 => if x4 < (x0.length : Int) then (if 0 ≤ x4 then ((epitomeref03_Out.f k ((rd_T26 x0 x4).f0) ((rd_T26 x0 x4).f1) ((rd_T26 x0 x4).f2)).bind fun t102 => (epitomeref04_Out.l0 k x0 (wrap64 (x3 + t102)) (wrap64 (x4 + 1)))) else (none)) else (some x3)
theorem epitomeref04_Out.mono_l : ∀ k, (∀ y0 y1 y2, LeO (epitomeref04_Out.l0 k y0 y1 y2) (epitomeref04_Out.l0 (k + 1) y0 y1 y2))
  | 0 => fun _ _ _ r h => by simp [epitomeref04_Out.l0] at h
  | k + 1 => by
    have ih0 := epitomeref04_Out.mono_l k
    · intro y0 y1 y2
      unfold epitomeref04_Out.l0
      repeat' first
      | (with_reducible exact ih0 _ _ _)
      | (with_reducible exact epitomeref03_Out.mono _ _ _ _)
      | (with_reducible exact LeO.refl _)
      | (with_reducible exact LeO.none _)
      | (with_reducible refine LeO.ite ?_ ?_)
      | (with_reducible refine LeO.bind ?_ (fun _ => ?_))
      | exact ih0 _ _ _
      | exact epitomeref03_Out.mono _ _ _ _
      | exact LeO.none _
      | refine LeO.ite ?_ ?_
      | refine LeO.bind ?_ (fun _ => ?_)
end Go.Proofs.YtkefbljogjcodaaDoor.F
end
