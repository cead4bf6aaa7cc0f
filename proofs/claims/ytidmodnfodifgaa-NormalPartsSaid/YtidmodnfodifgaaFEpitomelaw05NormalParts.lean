-- Written by drive.py (this session's) with the kit's printer, beside functions proved by hand. Not trusted: Lean checks it.
import Derived.Test.YtidmodnfodifgaaBase
import Derived.Test.YtidmodnfodifgaaFEpitomelaw05Shown
import Derived.Test.YtidmodnfodifgaaFEpitomeref04Fit
import Derived.Test.YtidmodnfodifgaaFEpitomeref04Same
import Derived.Test.YtidmodnfodifgaaFNormalOf
namespace Go.Proofs.Ytidmodnfodifgaa.F
open Go.RowKit Go.Proofs.YtidmodnfodifgaaW.PrintWords Go.Proofs.YtidmodnfodifgaaW.PrintLast Go.Proofs.YtidmodnfodifgaaW.PrintMore
attribute [local go_sem] max2_int min2_int max_two min_two max_three min_three max_four min_four cell_setCell_isSome
set_option linter.unusedVariables false
set_option linter.unusedSimpArgs false

open Kd
/-! ### epitomelaw05_NormalParts: function 4 -/
def epitomelaw05_NormalParts.j0 : Nat → Bool → List (S31) → List (S31) → List (S31) → List (S31) → Option (Bool)
  | 0, _, _, _, _, _ => none
  | k + 1, x7, x8, x9, x10, x12 => (normal_Of.f k x10).bind fun t163 => (if x7 = true then ((normal_Of.f k x12).bind fun t166 => ((epitomeref04_Same.f k t166 t163).bind fun t169 => (if t169 = true then ((normal_Of.f k x8).bind fun t170 => ((normal_Of.f k x9).bind fun t173 => (if t170.length + t173.length < 4398046511104 then ((normal_Of.f k (t170 ++ t173)).bind fun t179 => ((epitomeref04_Same.f k t179 t163).bind fun t182 => (some t182))) else (none)))) else (some false)))) else (some false))
def epitomelaw05_NormalParts.f (k : Nat) (l0 : List (S31)) (l1 : List (S31)) (a2_0 : Int) (a2_1 : Int) (a2_2 : Int) : Option (Bool) := (epitomelaw05_shown.f k).bind fun t102 => ((epitomeref04_Fit.f k l0 (wrap64 (Int.tmod a2_0 64))).bind fun t103 => ((epitomeref04_Fit.f k l1 (wrap64 (Int.tmod a2_1 64))).bind fun t106 => ((some (([] : List (S31)) : List (S31))).bind fun y109 => (if y109.length + t103.length < 4398046511104 then ((some (y109 ++ t103 : List (S31))).bind fun y112 => (if y112.length + t106.length < 4398046511104 then ((some (y112 ++ t106 : List (S31))).bind fun y115 => (if (wrap64 ((y115.length : Int) + 1)) = 0 then (none) else ((some (([] : List (S31)) : List (S31))).bind fun y118 => (if 0 ≤ (Int.tmod (wrap64 (a2_2)) (wrap64 ((y115.length : Int) + 1))) then (if (Int.tmod (wrap64 (a2_2)) (wrap64 ((y115.length : Int) + 1))) ≤ (y115.length : Int) then ((some (y115.take ((Int.tmod (wrap64 (a2_2)) (wrap64 ((y115.length : Int) + 1))) : Int).toNat : List (S31))).bind fun y121 => (if y118.length + y121.length < 4398046511104 then ((some (y118 ++ y121 : List (S31))).bind fun y125 => ((some (([(⟨wrap64 (1 + (wrap64 (Int.tmod a2_0 3))), 0, (⟨#[]⟩ : ByteArray)⟩ : S31)] : List (S31)) : List (S31))).bind fun y128 => (if y125.length + y128.length < 4398046511104 then ((some (y125 ++ y128 : List (S31))).bind fun y131 => (if (Int.tmod (wrap64 (a2_2)) (wrap64 ((y115.length : Int) + 1))) < (y115.length : Int) then (if ((rd_T31 y115 (Int.tmod (wrap64 (a2_2)) (wrap64 ((y115.length : Int) + 1)))).f0) = 2 then ((some (([(⟨(rd_T31 y115 (Int.tmod (wrap64 (a2_2)) (wrap64 ((y115.length : Int) + 1)))).f0, wrap64 (Int.tdiv ((rd_T31 y115 (Int.tmod (wrap64 (a2_2)) (wrap64 ((y115.length : Int) + 1)))).f1) 2), (⟨#[]⟩ : ByteArray)⟩ : S31), (⟨(rd_T31 y115 (Int.tmod (wrap64 (a2_2)) (wrap64 ((y115.length : Int) + 1)))).f0, wrap64 (((rd_T31 y115 (Int.tmod (wrap64 (a2_2)) (wrap64 ((y115.length : Int) + 1)))).f1) - (wrap64 (Int.tdiv ((rd_T31 y115 (Int.tmod (wrap64 (a2_2)) (wrap64 ((y115.length : Int) + 1)))).f1) 2))), (rd_T31 y115 (Int.tmod (wrap64 (a2_2)) (wrap64 ((y115.length : Int) + 1)))).f2⟩ : S31)] : List (S31)) : List (S31))).bind fun y137 => (if y131.length + y137.length < 4398046511104 then ((some (y131 ++ y137 : List (S31))).bind fun y140 => (if 0 ≤ (wrap64 ((Int.tmod (wrap64 (a2_2)) (wrap64 ((y115.length : Int) + 1))) + 1)) then (if (wrap64 ((Int.tmod (wrap64 (a2_2)) (wrap64 ((y115.length : Int) + 1))) + 1)) ≤ (y115.length : Int) then ((some (y115.drop ((wrap64 ((Int.tmod (wrap64 (a2_2)) (wrap64 ((y115.length : Int) + 1))) + 1)) : Int).toNat : List (S31))).bind fun y143 => (if y140.length + y143.length < 4398046511104 then (epitomelaw05_NormalParts.j0 k t102 t103 t106 y115 (y140 ++ y143)) else (none))) else (none)) else (none))) else (none))) else ((some (([(⟨(rd_T31 y115 (Int.tmod (wrap64 (a2_2)) (wrap64 ((y115.length : Int) + 1)))).f0, wrap64 (Int.tdiv ((rd_T31 y115 (Int.tmod (wrap64 (a2_2)) (wrap64 ((y115.length : Int) + 1)))).f1) 2), (rd_T31 y115 (Int.tmod (wrap64 (a2_2)) (wrap64 ((y115.length : Int) + 1)))).f2⟩ : S31), (⟨(rd_T31 y115 (Int.tmod (wrap64 (a2_2)) (wrap64 ((y115.length : Int) + 1)))).f0, wrap64 (((rd_T31 y115 (Int.tmod (wrap64 (a2_2)) (wrap64 ((y115.length : Int) + 1)))).f1) - (wrap64 (Int.tdiv ((rd_T31 y115 (Int.tmod (wrap64 (a2_2)) (wrap64 ((y115.length : Int) + 1)))).f1) 2))), (rd_T31 y115 (Int.tmod (wrap64 (a2_2)) (wrap64 ((y115.length : Int) + 1)))).f2⟩ : S31)] : List (S31)) : List (S31))).bind fun y150 => (if y131.length + y150.length < 4398046511104 then ((some (y131 ++ y150 : List (S31))).bind fun y153 => (if 0 ≤ (wrap64 ((Int.tmod (wrap64 (a2_2)) (wrap64 ((y115.length : Int) + 1))) + 1)) then (if (wrap64 ((Int.tmod (wrap64 (a2_2)) (wrap64 ((y115.length : Int) + 1))) + 1)) ≤ (y115.length : Int) then ((some (y115.drop ((wrap64 ((Int.tmod (wrap64 (a2_2)) (wrap64 ((y115.length : Int) + 1))) + 1)) : Int).toNat : List (S31))).bind fun y156 => (if y153.length + y156.length < 4398046511104 then (epitomelaw05_NormalParts.j0 k t102 t103 t106 y115 (y153 ++ y156)) else (none))) else (none)) else (none))) else (none)))) else (epitomelaw05_NormalParts.j0 k t102 t103 t106 y115 y131))) else (none)))) else (none))) else (none)) else (none))))) else (none))) else (none)))))
theorem epitomelaw05_NormalParts.mono_l : ∀ k, (∀ y0 y1 y2 y3 y4, LeO (epitomelaw05_NormalParts.j0 k y0 y1 y2 y3 y4) (epitomelaw05_NormalParts.j0 (k + 1) y0 y1 y2 y3 y4))
  | 0 => fun _ _ _ _ _ r h => by simp [epitomelaw05_NormalParts.j0] at h
  | k + 1 => by
    have ih0 := epitomelaw05_NormalParts.mono_l k
    · intro y0 y1 y2 y3 y4
      unfold epitomelaw05_NormalParts.j0
      repeat' first
      | (with_reducible exact ih0 _ _ _ _ _)
      | (with_reducible exact epitomelaw05_shown.mono _)
      | (with_reducible exact epitomeref04_Fit.mono _ _ _)
      | (with_reducible exact epitomeref04_Same.mono _ _ _)
      | (with_reducible exact normal_Of.mono _ _)
      | (with_reducible exact LeO.refl _)
      | (with_reducible exact LeO.none _)
      | (with_reducible refine LeO.ite ?_ ?_)
      | (with_reducible refine LeO.bind ?_ (fun _ => ?_))
      | exact ih0 _ _ _ _ _
      | exact epitomelaw05_shown.mono _
      | exact epitomeref04_Fit.mono _ _ _
      | exact epitomeref04_Same.mono _ _ _
      | exact normal_Of.mono _ _
      | exact LeO.none _
      | refine LeO.ite ?_ ?_
      | refine LeO.bind ?_ (fun _ => ?_)
theorem epitomelaw05_NormalParts.mono : ∀ a0 a1 a2 a3 a4 k, LeO (epitomelaw05_NormalParts.f k a0 a1 a2 a3 a4) (epitomelaw05_NormalParts.f (k + 1) a0 a1 a2 a3 a4) := by
  intro a0 a1 a2 a3 a4 k
  have ih0 := epitomelaw05_NormalParts.mono_l k
  unfold epitomelaw05_NormalParts.f
  repeat' first
      | (with_reducible exact ih0 _ _ _ _ _)
      | (with_reducible exact epitomelaw05_shown.mono _)
      | (with_reducible exact epitomeref04_Fit.mono _ _ _)
      | (with_reducible exact epitomeref04_Same.mono _ _ _)
      | (with_reducible exact normal_Of.mono _ _)
      | (with_reducible exact LeO.refl _)
      | (with_reducible exact LeO.none _)
      | (with_reducible refine LeO.ite ?_ ?_)
      | (with_reducible refine LeO.bind ?_ (fun _ => ?_))
      | exact ih0 _ _ _ _ _
      | exact epitomelaw05_shown.mono _
      | exact epitomeref04_Fit.mono _ _ _
      | exact epitomeref04_Same.mono _ _ _
      | exact normal_Of.mono _ _
      | exact LeO.none _
      | refine LeO.ite ?_ ?_
      | refine LeO.bind ?_ (fun _ => ?_)
def epitomelaw05_NormalParts.T6 : Bool × List (List Nat × List Nat) := (true, [([], []), ([], []), ([], []), ([1, 2], [1, 2]), ([0, 3], [0, 3]), ([], []), ([5], [5]), ([6], [6]), ([7], [7]), ([8], [8]), ([9], [9]), ([10], [10]), ([4, 11, 4], [4, 11]), ([12, 12, 0, 1, 2, 3, 4, 5, 6, 7, 8, 9, 10, 11, 12], [12])])
def epitomelaw05_NormalParts.B6 : List Nat := [0, 0, 0, 6, 15, 0, 32, 96, 224, 480, 992, 2016, 4095, 8191]
theorem epitomelaw05_NormalParts.tab6 : rtab .any (opsOf Try.f4 6) = epitomelaw05_NormalParts.T6 := by kernel_rfl
theorem epitomelaw05_NormalParts.bits6 : waitsOk epitomelaw05_NormalParts.T6.2 epitomelaw05_NormalParts.B6 = true := by kernel_rfl
def epitomelaw05_NormalParts.T15 : Bool × List (List Nat × List Nat) := (true, [([], []), ([], []), ([], []), ([1, 2], [1, 2]), ([0, 3], [0, 3]), ([], []), ([], []), ([6], [6]), ([5, 7], [5, 7]), ([4, 8, 4], [4, 8]), ([9, 9, 0, 1, 2, 3, 4, 5, 6, 7, 8, 9], [0, 9])])
def epitomelaw05_NormalParts.B15 : List Nat := [0, 0, 0, 6, 15, 0, 0, 64, 224, 511, 1023]
theorem epitomelaw05_NormalParts.tab15 : rtab .any (opsOf Try.f4 15) = epitomelaw05_NormalParts.T15 := by kernel_rfl
theorem epitomelaw05_NormalParts.bits15 : waitsOk epitomelaw05_NormalParts.T15.2 epitomelaw05_NormalParts.B15 = true := by kernel_rfl
set_option maxHeartbeats 8000000 in
set_option maxRecDepth 100000 in
theorem epitomelaw05_NormalParts.calls (k : Nat) (A0 : Option Addr) (c0 : Nat) (l0 : List (S31)) (A1 : Option Addr) (c1 : Nat) (l1 : List (S31)) (a2_0 : Int) (a2_1 : Int) (a2_2 : Int) (r : Bool) (w : World) (hr0 : Kd.C k31 w A0 l0.length l0) (hc0 : l0.length ≤ c0) (hr1 : Kd.C k31 w A1 l1.length l1) (hc1 : l1.length ≤ c1) (h : epitomelaw05_NormalParts.f k l0 l1 a2_0 a2_1 a2_2 = some r) :
  Calls Try.prog 4 #[.slice A0 l0.length c0, .slice A1 l1.length c1, .agg #[.int .u8 a2_0, .int .u8 a2_1, .int .u8 a2_2]] w fun e w' => e = .returned (.bool r) ∧ Below w.heap.size w w' := by
 have hu29 := Try.underlying29
 have hu31 := Try.underlying31
 have HR0 := Am hr0
 have HC0 := Am hc0
 clear hr0 hc0
 have HR1 := Am hr1
 have HC1 := Am hc1
 clear hr1 hc1
 have HB := Am (Below.refl w.heap.size w)
 have H : ((epitomelaw05_shown.f k).bind fun t102 => ((epitomeref04_Fit.f k l0 (wrap64 (Int.tmod a2_0 64))).bind fun t103 => ((epitomeref04_Fit.f k l1 (wrap64 (Int.tmod a2_1 64))).bind fun t106 => ((some (([] : List (S31)) : List (S31))).bind fun y109 => (if y109.length + t103.length < 4398046511104 then ((some (y109 ++ t103 : List (S31))).bind fun y112 => (if y112.length + t106.length < 4398046511104 then ((some (y112 ++ t106 : List (S31))).bind fun y115 => (if (wrap64 ((y115.length : Int) + 1)) = 0 then (none) else ((some (([] : List (S31)) : List (S31))).bind fun y118 => (if 0 ≤ (Int.tmod (wrap64 (a2_2)) (wrap64 ((y115.length : Int) + 1))) then (if (Int.tmod (wrap64 (a2_2)) (wrap64 ((y115.length : Int) + 1))) ≤ (y115.length : Int) then ((some (y115.take ((Int.tmod (wrap64 (a2_2)) (wrap64 ((y115.length : Int) + 1))) : Int).toNat : List (S31))).bind fun y121 => (if y118.length + y121.length < 4398046511104 then ((some (y118 ++ y121 : List (S31))).bind fun y125 => ((some (([(⟨wrap64 (1 + (wrap64 (Int.tmod a2_0 3))), 0, (⟨#[]⟩ : ByteArray)⟩ : S31)] : List (S31)) : List (S31))).bind fun y128 => (if y125.length + y128.length < 4398046511104 then ((some (y125 ++ y128 : List (S31))).bind fun y131 => (if (Int.tmod (wrap64 (a2_2)) (wrap64 ((y115.length : Int) + 1))) < (y115.length : Int) then (if ((rd_T31 y115 (Int.tmod (wrap64 (a2_2)) (wrap64 ((y115.length : Int) + 1)))).f0) = 2 then ((some (([(⟨(rd_T31 y115 (Int.tmod (wrap64 (a2_2)) (wrap64 ((y115.length : Int) + 1)))).f0, wrap64 (Int.tdiv ((rd_T31 y115 (Int.tmod (wrap64 (a2_2)) (wrap64 ((y115.length : Int) + 1)))).f1) 2), (⟨#[]⟩ : ByteArray)⟩ : S31), (⟨(rd_T31 y115 (Int.tmod (wrap64 (a2_2)) (wrap64 ((y115.length : Int) + 1)))).f0, wrap64 (((rd_T31 y115 (Int.tmod (wrap64 (a2_2)) (wrap64 ((y115.length : Int) + 1)))).f1) - (wrap64 (Int.tdiv ((rd_T31 y115 (Int.tmod (wrap64 (a2_2)) (wrap64 ((y115.length : Int) + 1)))).f1) 2))), (rd_T31 y115 (Int.tmod (wrap64 (a2_2)) (wrap64 ((y115.length : Int) + 1)))).f2⟩ : S31)] : List (S31)) : List (S31))).bind fun y137 => (if y131.length + y137.length < 4398046511104 then ((some (y131 ++ y137 : List (S31))).bind fun y140 => (if 0 ≤ (wrap64 ((Int.tmod (wrap64 (a2_2)) (wrap64 ((y115.length : Int) + 1))) + 1)) then (if (wrap64 ((Int.tmod (wrap64 (a2_2)) (wrap64 ((y115.length : Int) + 1))) + 1)) ≤ (y115.length : Int) then ((some (y115.drop ((wrap64 ((Int.tmod (wrap64 (a2_2)) (wrap64 ((y115.length : Int) + 1))) + 1)) : Int).toNat : List (S31))).bind fun y143 => (if y140.length + y143.length < 4398046511104 then (epitomelaw05_NormalParts.j0 k t102 t103 t106 y115 (y140 ++ y143)) else (none))) else (none)) else (none))) else (none))) else ((some (([(⟨(rd_T31 y115 (Int.tmod (wrap64 (a2_2)) (wrap64 ((y115.length : Int) + 1)))).f0, wrap64 (Int.tdiv ((rd_T31 y115 (Int.tmod (wrap64 (a2_2)) (wrap64 ((y115.length : Int) + 1)))).f1) 2), (rd_T31 y115 (Int.tmod (wrap64 (a2_2)) (wrap64 ((y115.length : Int) + 1)))).f2⟩ : S31), (⟨(rd_T31 y115 (Int.tmod (wrap64 (a2_2)) (wrap64 ((y115.length : Int) + 1)))).f0, wrap64 (((rd_T31 y115 (Int.tmod (wrap64 (a2_2)) (wrap64 ((y115.length : Int) + 1)))).f1) - (wrap64 (Int.tdiv ((rd_T31 y115 (Int.tmod (wrap64 (a2_2)) (wrap64 ((y115.length : Int) + 1)))).f1) 2))), (rd_T31 y115 (Int.tmod (wrap64 (a2_2)) (wrap64 ((y115.length : Int) + 1)))).f2⟩ : S31)] : List (S31)) : List (S31))).bind fun y150 => (if y131.length + y150.length < 4398046511104 then ((some (y131 ++ y150 : List (S31))).bind fun y153 => (if 0 ≤ (wrap64 ((Int.tmod (wrap64 (a2_2)) (wrap64 ((y115.length : Int) + 1))) + 1)) then (if (wrap64 ((Int.tmod (wrap64 (a2_2)) (wrap64 ((y115.length : Int) + 1))) + 1)) ≤ (y115.length : Int) then ((some (y115.drop ((wrap64 ((Int.tmod (wrap64 (a2_2)) (wrap64 ((y115.length : Int) + 1))) + 1)) : Int).toNat : List (S31))).bind fun y156 => (if y153.length + y156.length < 4398046511104 then (epitomelaw05_NormalParts.j0 k t102 t103 t106 y115 (y153 ++ y156)) else (none))) else (none)) else (none))) else (none)))) else (epitomelaw05_NormalParts.j0 k t102 t103 t106 y115 y131))) else (none)))) else (none))) else (none)) else (none))))) else (none))) else (none)))))) = some r := h
 clear h
 replace H := Option.bind_eq_some_iff.mp H
 obtain ⟨t102, A40, H⟩ := H
 have A4 := Am A40
 clear A40
 replace H := Option.bind_eq_some_iff.mp H
 obtain ⟨t103, A50, H⟩ := H
 have A5 := Am A50
 clear A50
 replace H := Option.bind_eq_some_iff.mp H
 obtain ⟨t106, A60, H⟩ := H
 have A6 := Am A60
 clear A60
 obtain ⟨y109, hy109⟩ : ∃ y_ : List (S31), y_ = (([] : List (S31))) := ⟨_, rfl⟩
 replace H := bind_named H hy109
 have Ny109 := Am hy109
 clear hy109
 by_cases c7 : y109.length + t103.length < 4398046511104
 ·rw [if_pos c7] at H
  have LMc7 := Am c7
  clear c7
  obtain ⟨y112, hy112⟩ : ∃ y_ : List (S31), y_ = (y109 ++ t103) := ⟨_, rfl⟩
  replace H : (if y112.length + t106.length < 4398046511104 then ((some (y112 ++ t106 : List (S31))).bind fun y115 => (if (wrap64 ((y115.length : Int) + 1)) = 0 then (none) else ((some (([] : List (S31)) : List (S31))).bind fun y118 => (if 0 ≤ (Int.tmod (wrap64 (a2_2)) (wrap64 ((y115.length : Int) + 1))) then (if (Int.tmod (wrap64 (a2_2)) (wrap64 ((y115.length : Int) + 1))) ≤ (y115.length : Int) then ((some (y115.take ((Int.tmod (wrap64 (a2_2)) (wrap64 ((y115.length : Int) + 1))) : Int).toNat : List (S31))).bind fun y121 => (if y118.length + y121.length < 4398046511104 then ((some (y118 ++ y121 : List (S31))).bind fun y125 => ((some (([(⟨wrap64 (1 + (wrap64 (Int.tmod a2_0 3))), 0, (⟨#[]⟩ : ByteArray)⟩ : S31)] : List (S31)) : List (S31))).bind fun y128 => (if y125.length + y128.length < 4398046511104 then ((some (y125 ++ y128 : List (S31))).bind fun y131 => (if (Int.tmod (wrap64 (a2_2)) (wrap64 ((y115.length : Int) + 1))) < (y115.length : Int) then (if ((rd_T31 y115 (Int.tmod (wrap64 (a2_2)) (wrap64 ((y115.length : Int) + 1)))).f0) = 2 then ((some (([(⟨(rd_T31 y115 (Int.tmod (wrap64 (a2_2)) (wrap64 ((y115.length : Int) + 1)))).f0, wrap64 (Int.tdiv ((rd_T31 y115 (Int.tmod (wrap64 (a2_2)) (wrap64 ((y115.length : Int) + 1)))).f1) 2), (⟨#[]⟩ : ByteArray)⟩ : S31), (⟨(rd_T31 y115 (Int.tmod (wrap64 (a2_2)) (wrap64 ((y115.length : Int) + 1)))).f0, wrap64 (((rd_T31 y115 (Int.tmod (wrap64 (a2_2)) (wrap64 ((y115.length : Int) + 1)))).f1) - (wrap64 (Int.tdiv ((rd_T31 y115 (Int.tmod (wrap64 (a2_2)) (wrap64 ((y115.length : Int) + 1)))).f1) 2))), (rd_T31 y115 (Int.tmod (wrap64 (a2_2)) (wrap64 ((y115.length : Int) + 1)))).f2⟩ : S31)] : List (S31)) : List (S31))).bind fun y137 => (if y131.length + y137.length < 4398046511104 then ((some (y131 ++ y137 : List (S31))).bind fun y140 => (if 0 ≤ (wrap64 ((Int.tmod (wrap64 (a2_2)) (wrap64 ((y115.length : Int) + 1))) + 1)) then (if (wrap64 ((Int.tmod (wrap64 (a2_2)) (wrap64 ((y115.length : Int) + 1))) + 1)) ≤ (y115.length : Int) then ((some (y115.drop ((wrap64 ((Int.tmod (wrap64 (a2_2)) (wrap64 ((y115.length : Int) + 1))) + 1)) : Int).toNat : List (S31))).bind fun y143 => (if y140.length + y143.length < 4398046511104 then (epitomelaw05_NormalParts.j0 k t102 t103 t106 y115 (y140 ++ y143)) else (none))) else (none)) else (none))) else (none))) else ((some (([(⟨(rd_T31 y115 (Int.tmod (wrap64 (a2_2)) (wrap64 ((y115.length : Int) + 1)))).f0, wrap64 (Int.tdiv ((rd_T31 y115 (Int.tmod (wrap64 (a2_2)) (wrap64 ((y115.length : Int) + 1)))).f1) 2), (rd_T31 y115 (Int.tmod (wrap64 (a2_2)) (wrap64 ((y115.length : Int) + 1)))).f2⟩ : S31), (⟨(rd_T31 y115 (Int.tmod (wrap64 (a2_2)) (wrap64 ((y115.length : Int) + 1)))).f0, wrap64 (((rd_T31 y115 (Int.tmod (wrap64 (a2_2)) (wrap64 ((y115.length : Int) + 1)))).f1) - (wrap64 (Int.tdiv ((rd_T31 y115 (Int.tmod (wrap64 (a2_2)) (wrap64 ((y115.length : Int) + 1)))).f1) 2))), (rd_T31 y115 (Int.tmod (wrap64 (a2_2)) (wrap64 ((y115.length : Int) + 1)))).f2⟩ : S31)] : List (S31)) : List (S31))).bind fun y150 => (if y131.length + y150.length < 4398046511104 then ((some (y131 ++ y150 : List (S31))).bind fun y153 => (if 0 ≤ (wrap64 ((Int.tmod (wrap64 (a2_2)) (wrap64 ((y115.length : Int) + 1))) + 1)) then (if (wrap64 ((Int.tmod (wrap64 (a2_2)) (wrap64 ((y115.length : Int) + 1))) + 1)) ≤ (y115.length : Int) then ((some (y115.drop ((wrap64 ((Int.tmod (wrap64 (a2_2)) (wrap64 ((y115.length : Int) + 1))) + 1)) : Int).toNat : List (S31))).bind fun y156 => (if y153.length + y156.length < 4398046511104 then (epitomelaw05_NormalParts.j0 k t102 t103 t106 y115 (y153 ++ y156)) else (none))) else (none)) else (none))) else (none)))) else (epitomelaw05_NormalParts.j0 k t102 t103 t106 y115 y131))) else (none)))) else (none))) else (none)) else (none))))) else (none)) = some r := by first | (rw [hy112]; with_reducible exact H) | (have H2_ := (Option.bind_some _ _).symm.trans H; rw [hy112]; with_reducible exact H2_) | (have H2_ := (Option.bind_some _ _).symm.trans H; with_reducible exact H2_) | with_reducible exact H | (rw [hy112]; exact H) | exact H
  have Ny112 := Am hy112
  clear hy112
  by_cases c8 : y112.length + t106.length < 4398046511104
  ·rw [if_pos c8] at H
   have LMc8 := Am c8
   clear c8
   obtain ⟨y115, hy115⟩ : ∃ y_ : List (S31), y_ = (y112 ++ t106) := ⟨_, rfl⟩
   replace H : (if (wrap64 ((y115.length : Int) + 1)) = 0 then (none) else ((some (([] : List (S31)) : List (S31))).bind fun y118 => (if 0 ≤ (Int.tmod (wrap64 (a2_2)) (wrap64 ((y115.length : Int) + 1))) then (if (Int.tmod (wrap64 (a2_2)) (wrap64 ((y115.length : Int) + 1))) ≤ (y115.length : Int) then ((some (y115.take ((Int.tmod (wrap64 (a2_2)) (wrap64 ((y115.length : Int) + 1))) : Int).toNat : List (S31))).bind fun y121 => (if y118.length + y121.length < 4398046511104 then ((some (y118 ++ y121 : List (S31))).bind fun y125 => ((some (([(⟨wrap64 (1 + (wrap64 (Int.tmod a2_0 3))), 0, (⟨#[]⟩ : ByteArray)⟩ : S31)] : List (S31)) : List (S31))).bind fun y128 => (if y125.length + y128.length < 4398046511104 then ((some (y125 ++ y128 : List (S31))).bind fun y131 => (if (Int.tmod (wrap64 (a2_2)) (wrap64 ((y115.length : Int) + 1))) < (y115.length : Int) then (if ((rd_T31 y115 (Int.tmod (wrap64 (a2_2)) (wrap64 ((y115.length : Int) + 1)))).f0) = 2 then ((some (([(⟨(rd_T31 y115 (Int.tmod (wrap64 (a2_2)) (wrap64 ((y115.length : Int) + 1)))).f0, wrap64 (Int.tdiv ((rd_T31 y115 (Int.tmod (wrap64 (a2_2)) (wrap64 ((y115.length : Int) + 1)))).f1) 2), (⟨#[]⟩ : ByteArray)⟩ : S31), (⟨(rd_T31 y115 (Int.tmod (wrap64 (a2_2)) (wrap64 ((y115.length : Int) + 1)))).f0, wrap64 (((rd_T31 y115 (Int.tmod (wrap64 (a2_2)) (wrap64 ((y115.length : Int) + 1)))).f1) - (wrap64 (Int.tdiv ((rd_T31 y115 (Int.tmod (wrap64 (a2_2)) (wrap64 ((y115.length : Int) + 1)))).f1) 2))), (rd_T31 y115 (Int.tmod (wrap64 (a2_2)) (wrap64 ((y115.length : Int) + 1)))).f2⟩ : S31)] : List (S31)) : List (S31))).bind fun y137 => (if y131.length + y137.length < 4398046511104 then ((some (y131 ++ y137 : List (S31))).bind fun y140 => (if 0 ≤ (wrap64 ((Int.tmod (wrap64 (a2_2)) (wrap64 ((y115.length : Int) + 1))) + 1)) then (if (wrap64 ((Int.tmod (wrap64 (a2_2)) (wrap64 ((y115.length : Int) + 1))) + 1)) ≤ (y115.length : Int) then ((some (y115.drop ((wrap64 ((Int.tmod (wrap64 (a2_2)) (wrap64 ((y115.length : Int) + 1))) + 1)) : Int).toNat : List (S31))).bind fun y143 => (if y140.length + y143.length < 4398046511104 then (epitomelaw05_NormalParts.j0 k t102 t103 t106 y115 (y140 ++ y143)) else (none))) else (none)) else (none))) else (none))) else ((some (([(⟨(rd_T31 y115 (Int.tmod (wrap64 (a2_2)) (wrap64 ((y115.length : Int) + 1)))).f0, wrap64 (Int.tdiv ((rd_T31 y115 (Int.tmod (wrap64 (a2_2)) (wrap64 ((y115.length : Int) + 1)))).f1) 2), (rd_T31 y115 (Int.tmod (wrap64 (a2_2)) (wrap64 ((y115.length : Int) + 1)))).f2⟩ : S31), (⟨(rd_T31 y115 (Int.tmod (wrap64 (a2_2)) (wrap64 ((y115.length : Int) + 1)))).f0, wrap64 (((rd_T31 y115 (Int.tmod (wrap64 (a2_2)) (wrap64 ((y115.length : Int) + 1)))).f1) - (wrap64 (Int.tdiv ((rd_T31 y115 (Int.tmod (wrap64 (a2_2)) (wrap64 ((y115.length : Int) + 1)))).f1) 2))), (rd_T31 y115 (Int.tmod (wrap64 (a2_2)) (wrap64 ((y115.length : Int) + 1)))).f2⟩ : S31)] : List (S31)) : List (S31))).bind fun y150 => (if y131.length + y150.length < 4398046511104 then ((some (y131 ++ y150 : List (S31))).bind fun y153 => (if 0 ≤ (wrap64 ((Int.tmod (wrap64 (a2_2)) (wrap64 ((y115.length : Int) + 1))) + 1)) then (if (wrap64 ((Int.tmod (wrap64 (a2_2)) (wrap64 ((y115.length : Int) + 1))) + 1)) ≤ (y115.length : Int) then ((some (y115.drop ((wrap64 ((Int.tmod (wrap64 (a2_2)) (wrap64 ((y115.length : Int) + 1))) + 1)) : Int).toNat : List (S31))).bind fun y156 => (if y153.length + y156.length < 4398046511104 then (epitomelaw05_NormalParts.j0 k t102 t103 t106 y115 (y153 ++ y156)) else (none))) else (none)) else (none))) else (none)))) else (epitomelaw05_NormalParts.j0 k t102 t103 t106 y115 y131))) else (none)))) else (none))) else (none)) else (none)))) = some r := by first | (rw [hy115]; with_reducible exact H) | (have H2_ := (Option.bind_some _ _).symm.trans H; rw [hy115]; with_reducible exact H2_) | (have H2_ := (Option.bind_some _ _).symm.trans H; with_reducible exact H2_) | with_reducible exact H | (rw [hy115]; exact H) | exact H
   have Ny115 := Am hy115
   clear hy115
   by_cases c9 : (wrap64 ((y115.length : Int) + 1)) = 0
   ·rw [if_pos c9] at H
    exact absurd H (by simp)
   ·rw [if_neg c9] at H
    have c9b0 : ((wrap64 ((y115.length : Int) + 1)) == 0) = false := beq_eq_false_iff_ne.mpr c9
    have c9b1 : ((wrap64 ((y115.length : Int) + 1)) != 0) = true := bne_iff_ne.mpr c9
    obtain ⟨y118, hy118⟩ : ∃ y_ : List (S31), y_ = (([] : List (S31))) := ⟨_, rfl⟩
    replace H : (if 0 ≤ (Int.tmod (wrap64 (a2_2)) (wrap64 ((y115.length : Int) + 1))) then (if (Int.tmod (wrap64 (a2_2)) (wrap64 ((y115.length : Int) + 1))) ≤ (y115.length : Int) then ((some (y115.take ((Int.tmod (wrap64 (a2_2)) (wrap64 ((y115.length : Int) + 1))) : Int).toNat : List (S31))).bind fun y121 => (if y118.length + y121.length < 4398046511104 then ((some (y118 ++ y121 : List (S31))).bind fun y125 => ((some (([(⟨wrap64 (1 + (wrap64 (Int.tmod a2_0 3))), 0, (⟨#[]⟩ : ByteArray)⟩ : S31)] : List (S31)) : List (S31))).bind fun y128 => (if y125.length + y128.length < 4398046511104 then ((some (y125 ++ y128 : List (S31))).bind fun y131 => (if (Int.tmod (wrap64 (a2_2)) (wrap64 ((y115.length : Int) + 1))) < (y115.length : Int) then (if ((rd_T31 y115 (Int.tmod (wrap64 (a2_2)) (wrap64 ((y115.length : Int) + 1)))).f0) = 2 then ((some (([(⟨(rd_T31 y115 (Int.tmod (wrap64 (a2_2)) (wrap64 ((y115.length : Int) + 1)))).f0, wrap64 (Int.tdiv ((rd_T31 y115 (Int.tmod (wrap64 (a2_2)) (wrap64 ((y115.length : Int) + 1)))).f1) 2), (⟨#[]⟩ : ByteArray)⟩ : S31), (⟨(rd_T31 y115 (Int.tmod (wrap64 (a2_2)) (wrap64 ((y115.length : Int) + 1)))).f0, wrap64 (((rd_T31 y115 (Int.tmod (wrap64 (a2_2)) (wrap64 ((y115.length : Int) + 1)))).f1) - (wrap64 (Int.tdiv ((rd_T31 y115 (Int.tmod (wrap64 (a2_2)) (wrap64 ((y115.length : Int) + 1)))).f1) 2))), (rd_T31 y115 (Int.tmod (wrap64 (a2_2)) (wrap64 ((y115.length : Int) + 1)))).f2⟩ : S31)] : List (S31)) : List (S31))).bind fun y137 => (if y131.length + y137.length < 4398046511104 then ((some (y131 ++ y137 : List (S31))).bind fun y140 => (if 0 ≤ (wrap64 ((Int.tmod (wrap64 (a2_2)) (wrap64 ((y115.length : Int) + 1))) + 1)) then (if (wrap64 ((Int.tmod (wrap64 (a2_2)) (wrap64 ((y115.length : Int) + 1))) + 1)) ≤ (y115.length : Int) then ((some (y115.drop ((wrap64 ((Int.tmod (wrap64 (a2_2)) (wrap64 ((y115.length : Int) + 1))) + 1)) : Int).toNat : List (S31))).bind fun y143 => (if y140.length + y143.length < 4398046511104 then (epitomelaw05_NormalParts.j0 k t102 t103 t106 y115 (y140 ++ y143)) else (none))) else (none)) else (none))) else (none))) else ((some (([(⟨(rd_T31 y115 (Int.tmod (wrap64 (a2_2)) (wrap64 ((y115.length : Int) + 1)))).f0, wrap64 (Int.tdiv ((rd_T31 y115 (Int.tmod (wrap64 (a2_2)) (wrap64 ((y115.length : Int) + 1)))).f1) 2), (rd_T31 y115 (Int.tmod (wrap64 (a2_2)) (wrap64 ((y115.length : Int) + 1)))).f2⟩ : S31), (⟨(rd_T31 y115 (Int.tmod (wrap64 (a2_2)) (wrap64 ((y115.length : Int) + 1)))).f0, wrap64 (((rd_T31 y115 (Int.tmod (wrap64 (a2_2)) (wrap64 ((y115.length : Int) + 1)))).f1) - (wrap64 (Int.tdiv ((rd_T31 y115 (Int.tmod (wrap64 (a2_2)) (wrap64 ((y115.length : Int) + 1)))).f1) 2))), (rd_T31 y115 (Int.tmod (wrap64 (a2_2)) (wrap64 ((y115.length : Int) + 1)))).f2⟩ : S31)] : List (S31)) : List (S31))).bind fun y150 => (if y131.length + y150.length < 4398046511104 then ((some (y131 ++ y150 : List (S31))).bind fun y153 => (if 0 ≤ (wrap64 ((Int.tmod (wrap64 (a2_2)) (wrap64 ((y115.length : Int) + 1))) + 1)) then (if (wrap64 ((Int.tmod (wrap64 (a2_2)) (wrap64 ((y115.length : Int) + 1))) + 1)) ≤ (y115.length : Int) then ((some (y115.drop ((wrap64 ((Int.tmod (wrap64 (a2_2)) (wrap64 ((y115.length : Int) + 1))) + 1)) : Int).toNat : List (S31))).bind fun y156 => (if y153.length + y156.length < 4398046511104 then (epitomelaw05_NormalParts.j0 k t102 t103 t106 y115 (y153 ++ y156)) else (none))) else (none)) else (none))) else (none)))) else (epitomelaw05_NormalParts.j0 k t102 t103 t106 y115 y131))) else (none)))) else (none))) else (none)) else (none)) = some r := by first | (rw [hy118]; with_reducible exact H) | (have H2_ := (Option.bind_some _ _).symm.trans H; rw [hy118]; with_reducible exact H2_) | (have H2_ := (Option.bind_some _ _).symm.trans H; with_reducible exact H2_) | with_reducible exact H | (rw [hy118]; exact H) | exact H
    have Ny118 := Am hy118
    clear hy118
    obtain ⟨ji10, hji10⟩ : ∃ j_ : Int, (Int.tmod (wrap64 (a2_2)) (wrap64 ((y115.length : Int) + 1))) = j_ := ⟨_, rfl⟩
    replace H : (if 0 ≤ (ji10) then (if (ji10) ≤ (y115.length : Int) then ((some (y115.take ((ji10) : Int).toNat : List (S31))).bind fun y121 => (if y118.length + y121.length < 4398046511104 then ((some (y118 ++ y121 : List (S31))).bind fun y125 => ((some (([(⟨wrap64 (1 + (wrap64 (Int.tmod a2_0 3))), 0, (⟨#[]⟩ : ByteArray)⟩ : S31)] : List (S31)) : List (S31))).bind fun y128 => (if y125.length + y128.length < 4398046511104 then ((some (y125 ++ y128 : List (S31))).bind fun y131 => (if (ji10) < (y115.length : Int) then (if ((rd_T31 y115 (ji10)).f0) = 2 then ((some (([(⟨(rd_T31 y115 (ji10)).f0, wrap64 (Int.tdiv ((rd_T31 y115 (ji10)).f1) 2), (⟨#[]⟩ : ByteArray)⟩ : S31), (⟨(rd_T31 y115 (ji10)).f0, wrap64 (((rd_T31 y115 (ji10)).f1) - (wrap64 (Int.tdiv ((rd_T31 y115 (ji10)).f1) 2))), (rd_T31 y115 (ji10)).f2⟩ : S31)] : List (S31)) : List (S31))).bind fun y137 => (if y131.length + y137.length < 4398046511104 then ((some (y131 ++ y137 : List (S31))).bind fun y140 => (if 0 ≤ (wrap64 ((ji10) + 1)) then (if (wrap64 ((ji10) + 1)) ≤ (y115.length : Int) then ((some (y115.drop ((wrap64 ((ji10) + 1)) : Int).toNat : List (S31))).bind fun y143 => (if y140.length + y143.length < 4398046511104 then (epitomelaw05_NormalParts.j0 k t102 t103 t106 y115 (y140 ++ y143)) else (none))) else (none)) else (none))) else (none))) else ((some (([(⟨(rd_T31 y115 (ji10)).f0, wrap64 (Int.tdiv ((rd_T31 y115 (ji10)).f1) 2), (rd_T31 y115 (ji10)).f2⟩ : S31), (⟨(rd_T31 y115 (ji10)).f0, wrap64 (((rd_T31 y115 (ji10)).f1) - (wrap64 (Int.tdiv ((rd_T31 y115 (ji10)).f1) 2))), (rd_T31 y115 (ji10)).f2⟩ : S31)] : List (S31)) : List (S31))).bind fun y150 => (if y131.length + y150.length < 4398046511104 then ((some (y131 ++ y150 : List (S31))).bind fun y153 => (if 0 ≤ (wrap64 ((ji10) + 1)) then (if (wrap64 ((ji10) + 1)) ≤ (y115.length : Int) then ((some (y115.drop ((wrap64 ((ji10) + 1)) : Int).toNat : List (S31))).bind fun y156 => (if y153.length + y156.length < 4398046511104 then (epitomelaw05_NormalParts.j0 k t102 t103 t106 y115 (y153 ++ y156)) else (none))) else (none)) else (none))) else (none)))) else (epitomelaw05_NormalParts.j0 k t102 t103 t106 y115 y131))) else (none)))) else (none))) else (none)) else (none)) = some r := by first | (rw [hji10] at H; exact H) | (simp only [hji10] at H ⊢; exact H)
    (try rw [hji10] at A4)
    (try rw [hji10] at A5)
    (try rw [hji10] at A6)
    by_cases c11 : 0 ≤ (ji10)
    ·rw [if_pos c11] at H
     have c11b0 := eq_true c11
     have c11b1 : decide (0 ≤ (ji10)) = true := decide_eq_true c11
     clear c11
     by_cases c12 : (ji10) ≤ (y115.length : Int)
     ·rw [if_pos c12] at H
      have c12b0 := eq_true c12
      have c12b1 : decide ((ji10) ≤ (y115.length : Int)) = true := decide_eq_true c12
      clear c12
      obtain ⟨y121, hy121⟩ : ∃ y_ : List (S31), y_ = (y115.take ((ji10) : Int).toNat) := ⟨_, rfl⟩
      replace H : (if y118.length + y121.length < 4398046511104 then ((some (y118 ++ y121 : List (S31))).bind fun y125 => ((some (([(⟨wrap64 (1 + (wrap64 (Int.tmod a2_0 3))), 0, (⟨#[]⟩ : ByteArray)⟩ : S31)] : List (S31)) : List (S31))).bind fun y128 => (if y125.length + y128.length < 4398046511104 then ((some (y125 ++ y128 : List (S31))).bind fun y131 => (if (ji10) < (y115.length : Int) then (if ((rd_T31 y115 (ji10)).f0) = 2 then ((some (([(⟨(rd_T31 y115 (ji10)).f0, wrap64 (Int.tdiv ((rd_T31 y115 (ji10)).f1) 2), (⟨#[]⟩ : ByteArray)⟩ : S31), (⟨(rd_T31 y115 (ji10)).f0, wrap64 (((rd_T31 y115 (ji10)).f1) - (wrap64 (Int.tdiv ((rd_T31 y115 (ji10)).f1) 2))), (rd_T31 y115 (ji10)).f2⟩ : S31)] : List (S31)) : List (S31))).bind fun y137 => (if y131.length + y137.length < 4398046511104 then ((some (y131 ++ y137 : List (S31))).bind fun y140 => (if 0 ≤ (wrap64 ((ji10) + 1)) then (if (wrap64 ((ji10) + 1)) ≤ (y115.length : Int) then ((some (y115.drop ((wrap64 ((ji10) + 1)) : Int).toNat : List (S31))).bind fun y143 => (if y140.length + y143.length < 4398046511104 then (epitomelaw05_NormalParts.j0 k t102 t103 t106 y115 (y140 ++ y143)) else (none))) else (none)) else (none))) else (none))) else ((some (([(⟨(rd_T31 y115 (ji10)).f0, wrap64 (Int.tdiv ((rd_T31 y115 (ji10)).f1) 2), (rd_T31 y115 (ji10)).f2⟩ : S31), (⟨(rd_T31 y115 (ji10)).f0, wrap64 (((rd_T31 y115 (ji10)).f1) - (wrap64 (Int.tdiv ((rd_T31 y115 (ji10)).f1) 2))), (rd_T31 y115 (ji10)).f2⟩ : S31)] : List (S31)) : List (S31))).bind fun y150 => (if y131.length + y150.length < 4398046511104 then ((some (y131 ++ y150 : List (S31))).bind fun y153 => (if 0 ≤ (wrap64 ((ji10) + 1)) then (if (wrap64 ((ji10) + 1)) ≤ (y115.length : Int) then ((some (y115.drop ((wrap64 ((ji10) + 1)) : Int).toNat : List (S31))).bind fun y156 => (if y153.length + y156.length < 4398046511104 then (epitomelaw05_NormalParts.j0 k t102 t103 t106 y115 (y153 ++ y156)) else (none))) else (none)) else (none))) else (none)))) else (epitomelaw05_NormalParts.j0 k t102 t103 t106 y115 y131))) else (none)))) else (none)) = some r := by first | (rw [hy121]; with_reducible exact H) | (have H2_ := (Option.bind_some _ _).symm.trans H; rw [hy121]; with_reducible exact H2_) | (have H2_ := (Option.bind_some _ _).symm.trans H; with_reducible exact H2_) | with_reducible exact H | (rw [hy121]; exact H) | exact H
      have Ny121 := Am hy121
      clear hy121
      by_cases c13 : y118.length + y121.length < 4398046511104
      ·rw [if_pos c13] at H
       have LMc13 := Am c13
       clear c13
       obtain ⟨y125, hy125⟩ : ∃ y_ : List (S31), y_ = (y118 ++ y121) := ⟨_, rfl⟩
       replace H : ((some (([(⟨wrap64 (1 + (wrap64 (Int.tmod a2_0 3))), 0, (⟨#[]⟩ : ByteArray)⟩ : S31)] : List (S31)) : List (S31))).bind fun y128 => (if y125.length + y128.length < 4398046511104 then ((some (y125 ++ y128 : List (S31))).bind fun y131 => (if (ji10) < (y115.length : Int) then (if ((rd_T31 y115 (ji10)).f0) = 2 then ((some (([(⟨(rd_T31 y115 (ji10)).f0, wrap64 (Int.tdiv ((rd_T31 y115 (ji10)).f1) 2), (⟨#[]⟩ : ByteArray)⟩ : S31), (⟨(rd_T31 y115 (ji10)).f0, wrap64 (((rd_T31 y115 (ji10)).f1) - (wrap64 (Int.tdiv ((rd_T31 y115 (ji10)).f1) 2))), (rd_T31 y115 (ji10)).f2⟩ : S31)] : List (S31)) : List (S31))).bind fun y137 => (if y131.length + y137.length < 4398046511104 then ((some (y131 ++ y137 : List (S31))).bind fun y140 => (if 0 ≤ (wrap64 ((ji10) + 1)) then (if (wrap64 ((ji10) + 1)) ≤ (y115.length : Int) then ((some (y115.drop ((wrap64 ((ji10) + 1)) : Int).toNat : List (S31))).bind fun y143 => (if y140.length + y143.length < 4398046511104 then (epitomelaw05_NormalParts.j0 k t102 t103 t106 y115 (y140 ++ y143)) else (none))) else (none)) else (none))) else (none))) else ((some (([(⟨(rd_T31 y115 (ji10)).f0, wrap64 (Int.tdiv ((rd_T31 y115 (ji10)).f1) 2), (rd_T31 y115 (ji10)).f2⟩ : S31), (⟨(rd_T31 y115 (ji10)).f0, wrap64 (((rd_T31 y115 (ji10)).f1) - (wrap64 (Int.tdiv ((rd_T31 y115 (ji10)).f1) 2))), (rd_T31 y115 (ji10)).f2⟩ : S31)] : List (S31)) : List (S31))).bind fun y150 => (if y131.length + y150.length < 4398046511104 then ((some (y131 ++ y150 : List (S31))).bind fun y153 => (if 0 ≤ (wrap64 ((ji10) + 1)) then (if (wrap64 ((ji10) + 1)) ≤ (y115.length : Int) then ((some (y115.drop ((wrap64 ((ji10) + 1)) : Int).toNat : List (S31))).bind fun y156 => (if y153.length + y156.length < 4398046511104 then (epitomelaw05_NormalParts.j0 k t102 t103 t106 y115 (y153 ++ y156)) else (none))) else (none)) else (none))) else (none)))) else (epitomelaw05_NormalParts.j0 k t102 t103 t106 y115 y131))) else (none))) = some r := by first | (rw [hy125]; with_reducible exact H) | (have H2_ := (Option.bind_some _ _).symm.trans H; rw [hy125]; with_reducible exact H2_) | (have H2_ := (Option.bind_some _ _).symm.trans H; with_reducible exact H2_) | with_reducible exact H | (rw [hy125]; exact H) | exact H
       have Ny125 := Am hy125
       clear hy125
       obtain ⟨y128, hy128⟩ : ∃ y_ : List (S31), y_ = (([(⟨wrap64 (1 + (wrap64 (Int.tmod a2_0 3))), 0, (⟨#[]⟩ : ByteArray)⟩ : S31)] : List (S31))) := ⟨_, rfl⟩
       replace H := bind_named H hy128
       have Ny128 := Am hy128
       clear hy128
       by_cases c14 : y125.length + y128.length < 4398046511104
       ·rw [if_pos c14] at H
        have LMc14 := Am c14
        clear c14
        obtain ⟨y131, hy131⟩ : ∃ y_ : List (S31), y_ = (y125 ++ y128) := ⟨_, rfl⟩
        replace H : (if (ji10) < (y115.length : Int) then (if ((rd_T31 y115 (ji10)).f0) = 2 then ((some (([(⟨(rd_T31 y115 (ji10)).f0, wrap64 (Int.tdiv ((rd_T31 y115 (ji10)).f1) 2), (⟨#[]⟩ : ByteArray)⟩ : S31), (⟨(rd_T31 y115 (ji10)).f0, wrap64 (((rd_T31 y115 (ji10)).f1) - (wrap64 (Int.tdiv ((rd_T31 y115 (ji10)).f1) 2))), (rd_T31 y115 (ji10)).f2⟩ : S31)] : List (S31)) : List (S31))).bind fun y137 => (if y131.length + y137.length < 4398046511104 then ((some (y131 ++ y137 : List (S31))).bind fun y140 => (if 0 ≤ (wrap64 ((ji10) + 1)) then (if (wrap64 ((ji10) + 1)) ≤ (y115.length : Int) then ((some (y115.drop ((wrap64 ((ji10) + 1)) : Int).toNat : List (S31))).bind fun y143 => (if y140.length + y143.length < 4398046511104 then (epitomelaw05_NormalParts.j0 k t102 t103 t106 y115 (y140 ++ y143)) else (none))) else (none)) else (none))) else (none))) else ((some (([(⟨(rd_T31 y115 (ji10)).f0, wrap64 (Int.tdiv ((rd_T31 y115 (ji10)).f1) 2), (rd_T31 y115 (ji10)).f2⟩ : S31), (⟨(rd_T31 y115 (ji10)).f0, wrap64 (((rd_T31 y115 (ji10)).f1) - (wrap64 (Int.tdiv ((rd_T31 y115 (ji10)).f1) 2))), (rd_T31 y115 (ji10)).f2⟩ : S31)] : List (S31)) : List (S31))).bind fun y150 => (if y131.length + y150.length < 4398046511104 then ((some (y131 ++ y150 : List (S31))).bind fun y153 => (if 0 ≤ (wrap64 ((ji10) + 1)) then (if (wrap64 ((ji10) + 1)) ≤ (y115.length : Int) then ((some (y115.drop ((wrap64 ((ji10) + 1)) : Int).toNat : List (S31))).bind fun y156 => (if y153.length + y156.length < 4398046511104 then (epitomelaw05_NormalParts.j0 k t102 t103 t106 y115 (y153 ++ y156)) else (none))) else (none)) else (none))) else (none)))) else (epitomelaw05_NormalParts.j0 k t102 t103 t106 y115 y131)) = some r := by first | (rw [hy131]; with_reducible exact H) | (have H2_ := (Option.bind_some _ _).symm.trans H; rw [hy131]; with_reducible exact H2_) | (have H2_ := (Option.bind_some _ _).symm.trans H; with_reducible exact H2_) | with_reducible exact H | (rw [hy131]; exact H) | exact H
        have Ny131 := Am hy131
        clear hy131
        have HC15 := Am H
        clear H
        go_enter Try.func4, Try.ntmps4
        try go_wp2_with (first | ((with_reducible refine gate_dst (N := 5) rfl ?_); (try (refine gate_guard (by rfl) ?_; dsimp only)); refine box_event ?hg (N := 5) ?hd (cs := #[.int .u8 a2_0, .int .u8 a2_1, .int .u8 a2_2]) (t := 29) ?hr ?_; (case hd => rfl); (case hg => rfl); (case hr => first | (go_simp; done) | (go_simp; rfl)); intro gb101 hg w16 hbox hb; have n0_ := Am (below_step (by repeat (first | (with_reducible first | exact HB.out | apply below_alloc | apply pw_below_drewN | apply below_drew1) | exact HB.out)) hb); have n1_ := Am (hbox); have n2_ := Am ((by rw [hg]; exact (below_size (by repeat (first | (with_reducible first | exact HB.out | apply below_alloc | apply pw_below_drewN | apply below_drew1) | exact HB.out))) : w.heap.size ≤ gb101)); have n3_ := Am ((by rw [hg]; exact (below_size (by repeat (first | (with_reducible first | exact HB.out | apply below_alloc | apply pw_below_drewN | apply below_drew1) | exact HB.out))) : w.heap.size ≤ gb101)); clear HB; have HB := n0_; have BK101 := n1_; have GW101 := n2_; have GE101 := n3_; clear n0_ n1_ n2_ n3_; clear hb hbox hg) | ((with_reducible refine gate_callee (f := 7) rfl ?_); refine goesL_ (some 17) rfl rfl Try.func7 (by kernel_rfl) rfl #[] rfl (by (try simp only [List.map_toArray, List.map_cons, List.map_nil]); first | done | rfl | (simp only [List.length_drop, List.length_take]; rfl)) ?_; (with_reducible refine (epitomelaw05_shown.calls k  t102 _ A4.out).mono ?_); rintro e w17 ⟨rfl, hb⟩; refine ⟨_, rfl, ?_⟩; have n0_ := Am (blk_below (g := gb101) (o := .cells #[.int .u8 a2_0, .int .u8 a2_1, .int .u8 a2_2] 29 (0, 0)) (by (with_reducible repeat (first | refine blk_drewN ?_ _ | refine blk_drew ?_ | refine blk_alloc ?_ _)); exact BK101.out) hb); have n1_ := Am (below_step (by repeat (first | (with_reducible first | exact HB.out | apply below_alloc | apply pw_below_drewN | apply below_drew1 | refine below_set ?_ GE101.out) | exact HB.out)) hb); clear BK101; clear HB; have BK101 := n0_; have HB := n1_; clear n0_ n1_; (try clear hb); (try clear hb2); (try clear hk); (try clear hi); have hcz18_0 : w17.cell? ⟨gb101, 0, none⟩ = some (.int .u8 a2_0) := (blk_cell BK101.out 0).trans rfl; have hcz18_1 : w17.cell? ⟨gb101, 1, none⟩ = some (.int .u8 a2_1) := (blk_cell BK101.out 1).trans rfl; have hcz18_2 : w17.cell? ⟨gb101, 2, none⟩ = some (.int .u8 a2_2) := (blk_cell BK101.out 2).trans rfl; have hfz18_0 := blk_frozen BK101.out 0; have hfz18_1 := blk_frozen BK101.out 1; have hfz18_2 := blk_frozen BK101.out 2) | ((with_reducible refine gate_callee (f := 8) rfl ?_); refine goesL_ (some 23) rfl rfl Try.func8 (by kernel_rfl) rfl #[.slice A0 l0.length c0, .int .i64 (wrap64 (Int.tmod a2_0 64))] rfl (by (try simp only [List.map_toArray, List.map_cons, List.map_nil]); first | done | rfl | (simp only [List.length_drop, List.length_take]; rfl)) ?_; (with_reducible refine (epitomeref04_Fit.calls k _ _ l0 (wrap64 (Int.tmod a2_0 64)) t103 _ ?side1 ?side2 A5.out).mono ?_); (case side1 => repeat (first | exact (C_below HR0.out HB.out) | (with_reducible refine C_alloc ?_ _) | (with_reducible refine C_drewN ?_ _) | (with_reducible refine C_drew ?_))); (case side2 => exact HC0.out); rintro e w19 ⟨v104, rfl, ho0, hb⟩; refine ⟨_, rfl, ?_⟩; have n0_ := Am (R_lower ho0 (below_size (by repeat (first | (with_reducible first | exact HB.out | apply below_alloc | apply pw_below_drewN | apply below_drew1 | refine below_set ?_ GE101.out) | exact HB.out)))); have n1_ := Am (blk_below (g := gb101) (o := .cells #[.int .u8 a2_0, .int .u8 a2_1, .int .u8 a2_2] 29 (0, 0)) (by (with_reducible repeat (first | refine blk_drewN ?_ _ | refine blk_drew ?_ | refine blk_alloc ?_ _)); exact BK101.out) hb); have n2_ := Am (below_step (by repeat (first | (with_reducible first | exact HB.out | apply below_alloc | apply pw_below_drewN | apply below_drew1 | refine below_set ?_ GE101.out) | exact HB.out)) hb); clear BK101; clear HB; have HO105 := n0_; have BK101 := n1_; have HB := n2_; clear n0_ n1_ n2_; (try clear hb); (try clear hb2); (try clear hk); (try clear hi); (try clear ho0); have hcz20_0 : w19.cell? ⟨gb101, 0, none⟩ = some (.int .u8 a2_0) := (blk_cell BK101.out 0).trans rfl; have hcz20_1 : w19.cell? ⟨gb101, 1, none⟩ = some (.int .u8 a2_1) := (blk_cell BK101.out 1).trans rfl; have hcz20_2 : w19.cell? ⟨gb101, 2, none⟩ = some (.int .u8 a2_2) := (blk_cell BK101.out 2).trans rfl; have hfz20_0 := blk_frozen BK101.out 0; have hfz20_1 := blk_frozen BK101.out 1; have hfz20_2 := blk_frozen BK101.out 2; (try clear A5)) | ((with_reducible refine gate_callee (f := 8) rfl ?_); refine goesL_ (some 29) rfl rfl Try.func8 (by kernel_rfl) rfl #[.slice A1 l1.length c1, .int .i64 (wrap64 (Int.tmod a2_1 64))] rfl (by (try simp only [List.map_toArray, List.map_cons, List.map_nil]); first | done | rfl | (simp only [List.length_drop, List.length_take]; rfl)) ?_; (with_reducible refine (epitomeref04_Fit.calls k _ _ l1 (wrap64 (Int.tmod a2_1 64)) t106 _ ?side1 ?side2 A6.out).mono ?_); (case side1 => repeat (first | exact (C_below HR1.out HB.out) | (with_reducible refine C_alloc ?_ _) | (with_reducible refine C_drewN ?_ _) | (with_reducible refine C_drew ?_))); (case side2 => exact HC1.out); rintro e w21 ⟨v107, rfl, ho0, hb⟩; refine ⟨_, rfl, ?_⟩; have n0_ := Am (R_elder' (by (with_reducible repeat (first | apply R_alloc | apply R_drewN | apply R_drew)); exact HO105.out) (R_base ho0) hb); have n1_ := Am (R_lower (R_new' ho0 (R_lt (by (with_reducible repeat (first | apply R_alloc | apply R_drewN | apply R_drew)); exact HO105.out))) (below_size (by repeat (first | (with_reducible first | exact HB.out | apply below_alloc | apply pw_below_drewN | apply below_drew1 | refine below_set ?_ GE101.out) | exact HB.out)))); have n2_ := Am (blk_below (g := gb101) (o := .cells #[.int .u8 a2_0, .int .u8 a2_1, .int .u8 a2_2] 29 (0, 0)) (by (with_reducible repeat (first | refine blk_drewN ?_ _ | refine blk_drew ?_ | refine blk_alloc ?_ _)); exact BK101.out) hb); have n3_ := Am (below_step (by repeat (first | (with_reducible first | exact HB.out | apply below_alloc | apply pw_below_drewN | apply below_drew1 | refine below_set ?_ GE101.out) | exact HB.out)) hb); clear HO105; clear BK101; clear HB; have HO105 := n0_; have HO108 := n1_; have BK101 := n2_; have HB := n3_; clear n0_ n1_ n2_ n3_; (try clear hb); (try clear hb2); (try clear hk); (try clear hi); (try clear ho0); (try clear A6)) | ((with_reducible refine gate_dst (N := 30) rfl ?_); (try (refine gate_guard (by rfl) ?_; dsimp only)); refine R_lit k31 _ 31 ?hg (N := 30) ?hd (xs := ([] : List (S31))) (inner := []) (ok := fun _ => True) (okp := fun _ => True) ?hr ?hp (fun _ hk => hk) trivial (Below.refl _ _) (Nat.le_refl _) (by simp) ?_; (case hd => rfl); (case hg => rfl); (case hr => first | (go_simp; done) | (go_simp; rfl)); (case hp => exact (Reps.none _ _)); intro v110 w22 ho23 hb hg_ hnew_; clear hg_ hnew_; (first | rw [← Ny109.out] at ho23 | (simp only [Int.reduceToNat] at ho23; rw [← Ny109.out] at ho23)); have n0_ := Am (R_elder' (by (with_reducible repeat (first | apply R_alloc | apply R_drewN | apply R_drew)); exact HO105.out) (R_base ho23) hb); have n1_ := Am (R_elder' (by (with_reducible repeat (first | apply R_alloc | apply R_drewN | apply R_drew)); exact HO108.out) (R_base ho23) hb); have n2_ := Am (R_lower (R_new' (R_new' ho23 (R_lt (by (with_reducible repeat (first | apply R_alloc | apply R_drewN | apply R_drew)); exact HO105.out))) (R_lt (by (with_reducible repeat (first | apply R_alloc | apply R_drewN | apply R_drew)); exact HO108.out))) (below_size (by repeat (first | (with_reducible first | exact HB.out | apply below_alloc | apply pw_below_drewN | apply below_drew1 | refine below_set ?_ GE101.out) | exact HB.out)))); have n3_ := Am (blk_below (g := gb101) (o := .cells #[.int .u8 a2_0, .int .u8 a2_1, .int .u8 a2_2] 29 (0, 0)) (by (with_reducible repeat (first | refine blk_drewN ?_ _ | refine blk_drew ?_ | refine blk_alloc ?_ _)); exact BK101.out) hb); have n4_ := Am (below_step (by repeat (first | (with_reducible first | exact HB.out | apply below_alloc | apply pw_below_drewN | apply below_drew1 | refine below_set ?_ GE101.out) | exact HB.out)) hb); clear HO105; clear HO108; clear BK101; clear HB; have HO105 := n0_; have HO108 := n1_; have HO111 := n2_; have BK101 := n3_; have HB := n4_; clear n0_ n1_ n2_ n3_ n4_; clear hb ho23; obtain ⟨Ao25, co25, eo25⟩ := R_slice HO105.out; subst eo25) | ((with_reducible refine gate_builtin (b := .append) (xs := #[.tmp 30, .tmp 31]) rfl ?_); (try (refine gate_guard (by rfl) ?_; dsimp only)); at_builtin; refine R_append_rows k31 (w0 := w) w.heap.size rfl (.tmp 30) (.tmp 31) 22 31 (.agg #[(.int .i64 0), (.int .i64 0), (.string ⟨#[]⟩)]) 32 rfl Try.underlying22 info31 rfl (by decide) (by omega) v110 y109 t103 _ _ _ (fun k_ => some k_ ≠ (.slice Ao25 t103.length co25 : Value).ownBlock ∧ some k_ ≠ (v107 : Value).ownBlock) (fun _ => False) rfl rfl ?aO ?aR (fun _ _ h => h) (fun _ h => h.elim) ?aF ?aB ?aS ?aL ?_; (case aR => repeat (first | exact (R_reads' HO105.out).2.2 | (with_reducible refine C_alloc ?_ _) | (with_reducible refine C_drewN ?_ _) | (with_reducible refine C_drew ?_))); (case aB => exact (by repeat (first | (with_reducible first | exact HB.out | apply below_alloc | apply pw_below_drewN | apply below_drew1 | refine below_set ?_ GE101.out) | exact HB.out))); (case aF => exact (fun k_ hk => ⟨Kd.fresh' (R_lt (by (with_reducible repeat (first | apply R_alloc | apply R_drewN | apply R_drew)); exact HO105.out)) k_ hk, Kd.fresh' (R_lt (by (with_reducible repeat (first | apply R_alloc | apply R_drewN | apply R_drew)); exact HO108.out)) k_ hk⟩)); (case aO => exact (by (with_reducible repeat (first | apply R_alloc | apply R_drewN | apply R_drew)); exact R_mono HO111.out (fun _ hk => ⟨hk.1.2, hk.2⟩))); (case aS => exact (below_size (by repeat (first | (with_reducible first | exact HB.out | apply below_alloc | apply pw_below_drewN | apply below_drew1 | refine below_set ?_ GE101.out) | exact HB.out)))); (case aL => have := LMc7.out; omega); intro v113 w24 ho hb hg hat; rw [← Ny112.out] at ho; have n0_ := Am (blk_grown (g := gb101) (o := .cells #[.int .u8 a2_0, .int .u8 a2_1, .int .u8 a2_2] 29 (0, 0)) (by (with_reducible repeat (first | refine blk_drewN ?_ _ | refine blk_drew ?_ | refine blk_alloc ?_ _)); exact BK101.out) hg (R_ne HO111.out BK101.out (by decide))); have n1_ := Am (R_after (ok := (fun k_ => some k_ ≠ (v107 : Value).ownBlock)) (by (with_reducible repeat (first | apply R_alloc | apply R_drewN | apply R_drew)); exact R_mono HO105.out (fun _ hk => ⟨hk.1.2, hk.2⟩)) hg hat); have n2_ := Am (R_after (ok := (fun k_ => some k_ ≠ (.slice Ao25 t103.length co25 : Value).ownBlock)) (by (with_reducible repeat (first | apply R_alloc | apply R_drewN | apply R_drew)); exact R_mono HO108.out (fun _ hk => ⟨hk.1.2, hk.2⟩)) hg hat); have n3_ := Am (hb); have n4_ := Am (ho); clear BK101; clear HO105; clear HO108; clear HB; clear HO111; have BK101 := n0_; have HO105 := n1_; have HO108 := n2_; have HB := n3_; have HO114 := n4_; clear n0_ n1_ n2_ n3_ n4_; clear ho hb hg hat; obtain ⟨Ao27, co27, eo27⟩ := R_slice HO108.out; subst eo27) | ((with_reducible refine gate_builtin (b := .append) (xs := #[.tmp 32, .tmp 33]) rfl ?_); (try (refine gate_guard (by rfl) ?_; dsimp only)); at_builtin; refine R_append_rows k31 (w0 := w) w.heap.size rfl (.tmp 32) (.tmp 33) 22 31 (.agg #[(.int .i64 0), (.int .i64 0), (.string ⟨#[]⟩)]) 32 rfl Try.underlying22 info31 rfl (by decide) (by omega) v113 y112 t106 _ _ _ (fun k_ => some k_ ≠ (.slice Ao25 t103.length co25 : Value).ownBlock ∧ some k_ ≠ (.slice Ao27 t106.length co27 : Value).ownBlock) (fun _ => False) rfl rfl ?aO ?aR (fun _ _ h => h) (fun _ h => h.elim) ?aF ?aB ?aS ?aL ?_; (case aR => repeat (first | exact (R_reads' HO108.out).2.2 | (with_reducible refine C_alloc ?_ _) | (with_reducible refine C_drewN ?_ _) | (with_reducible refine C_drew ?_))); (case aB => exact (by repeat (first | (with_reducible first | exact HB.out | apply below_alloc | apply pw_below_drewN | apply below_drew1 | refine below_set ?_ GE101.out) | exact HB.out))); (case aF => exact (fun k_ hk => ⟨Kd.fresh' (R_lt (by (with_reducible repeat (first | apply R_alloc | apply R_drewN | apply R_drew)); exact HO105.out)) k_ hk, Kd.fresh' (R_lt (by (with_reducible repeat (first | apply R_alloc | apply R_drewN | apply R_drew)); exact HO108.out)) k_ hk⟩)); (case aO => exact (by (with_reducible repeat (first | apply R_alloc | apply R_drewN | apply R_drew)); exact HO114.out)); (case aS => exact (below_size (by repeat (first | (with_reducible first | exact HB.out | apply below_alloc | apply pw_below_drewN | apply below_drew1 | refine below_set ?_ GE101.out) | exact HB.out)))); (case aL => have := LMc8.out; omega); intro v116 w26 ho hb hg hat; rw [← Ny115.out] at ho; have n0_ := Am (blk_grown (g := gb101) (o := .cells #[.int .u8 a2_0, .int .u8 a2_1, .int .u8 a2_2] 29 (0, 0)) (by (with_reducible repeat (first | refine blk_drewN ?_ _ | refine blk_drew ?_ | refine blk_alloc ?_ _)); exact BK101.out) hg (R_ne HO114.out BK101.out (by decide))); have n1_ := Am (R_after (ok := (fun k_ => some k_ ≠ (.slice Ao27 t106.length co27 : Value).ownBlock)) (by (with_reducible repeat (first | apply R_alloc | apply R_drewN | apply R_drew)); exact HO105.out) hg hat); have n2_ := Am (R_after (ok := (fun k_ => some k_ ≠ (.slice Ao25 t103.length co25 : Value).ownBlock)) (by (with_reducible repeat (first | apply R_alloc | apply R_drewN | apply R_drew)); exact HO108.out) hg hat); have n3_ := Am (hb); have n4_ := Am (ho); clear BK101; clear HO105; clear HO108; clear HB; clear HO114; have BK101 := n0_; have HO105 := n1_; have HO108 := n2_; have HB := n3_; have HO117 := n4_; clear n0_ n1_ n2_ n3_ n4_; clear ho hb hg hat; have hcz28_0 : w26.cell? ⟨gb101, 0, none⟩ = some (.int .u8 a2_0) := (blk_cell BK101.out 0).trans rfl; have hcz28_1 : w26.cell? ⟨gb101, 1, none⟩ = some (.int .u8 a2_1) := (blk_cell BK101.out 1).trans rfl; have hcz28_2 : w26.cell? ⟨gb101, 2, none⟩ = some (.int .u8 a2_2) := (blk_cell BK101.out 2).trans rfl; have hfz28_0 := blk_frozen BK101.out 0; have hfz28_1 := blk_frozen BK101.out 1; have hfz28_2 := blk_frozen BK101.out 2; obtain ⟨Ao29, co29, eo29⟩ := R_slice HO117.out; subst eo29))
        have n0_ := Am (R_drew HO105.out)
        have n1_ := Am (R_drew HO108.out)
        have n2_ := Am (R_drew HO117.out)
        have n3_ := Am (blk_drew BK101.out)
        have n4_ := Am (below_drew1 HB.out)
        clear HO105
        clear HO108
        clear HO117
        clear BK101
        clear HB
        have HO105 := n0_
        have HO108 := n1_
        have HO117 := n2_
        have BK101 := n3_
        have HB := n4_
        clear n0_ n1_ n2_ n3_ n4_
        have q31 : ((ji10) : Int) ≤ ((y115.length : Int) : Int) := of_decide_eq_true (by first | (with_reducible assumption) | assumption)
        obtain ⟨i031, hi031, _, hsz31, _⟩ := info_parts info31
        have hroom31 : y115.length ≤ co29 := (R_reads' HO117.out).2.1
        have hC31 : Kd.C k31 _ Ao29 y115.length y115 := (R_reads' HO117.out).2.2
        have hcut31 := cut_to (P := Try.prog) 22 31 .i64 Try.underlying22 hi031 Ao29 y115.length co29 (ji10) (of_decide_eq_true (by first | (with_reducible assumption) | assumption)) q31 hroom31
        have hr31 := C_take (m := ((ji10) : Int).toNat) hC31 (by omega)
        have hy31 : y121.length = ((ji10) : Int).toNat := (by rw [Ny121.out, List.length_take]; omega)
        rw [← Ny121.out] at hr31
        rw [← hy31] at hcut31
        have HR124 := Am hr31
        have HC124 := Am (show y121.length ≤ co29 from by omega)
        clear hr31 hC31 hroom31 hi031 hsz31
        have KY31 := Am hy31
        clear hy31
        have KL31 := Am (show ((ji10) : Int).toNat ≤ y115.length from by omega)
        replace q31 := eq_true q31
        refine start_ (n := 14) (S := fun w' => w'.cell? ⟨gb101, 0, none⟩ = some (.int .u8 a2_0) ∧ w'.cell? ⟨gb101, 1, none⟩ = some (.int .u8 a2_1) ∧ w'.cell? ⟨gb101, 2, none⟩ = some (.int .u8 a2_2)) (ds := []) #[false, false, false, false, false, false, false, false, false, false, false, false, false, false] (by kernel_rfl) rfl rfl ⟨(blk_cell BK101.out 0).trans rfl, (blk_cell BK101.out 1).trans rfl, (blk_cell BK101.out 2).trans rfl⟩ (fun hHeld => ?_); refine with_tabW epitomelaw05_NormalParts.tab6 epitomelaw05_NormalParts.bits6 (fun HT_ HW_ => ?_)
        generalize w26.drew = w30 at HO105 HO108 HO117 BK101 HB HR124 hHeld ⊢
        refine pure_ (i := 1) (N := some 43) (v := ?_) (a' := ?_) #[false, true, false, false, false, false, false, false, false, false, false, false, false, false] rfl rfl (any_of HT_.out (by kernel_rfl)) (fun _ _ _ h => h) (Or.inl ⟨by rfl, ?_⟩) ?_ ?_
        rotate_left
        ·intro w'
         go_simp
         with_reducible rfl
        rotate_left
        ·simp only [Act.put, List.setIfInBounds_toArray, List.set_cons_zero, List.set_cons_succ, i64_w, i32_w]
         rfl
        refine pure_ (i := 2) (N := some 44) (v := ?_) (a' := ?_) #[false, true, true, false, false, false, false, false, false, false, false, false, false, false] rfl rfl (any_of HT_.out (by kernel_rfl)) (fun _ _ _ h => h) (Or.inl ⟨by rfl, ?_⟩) ?_ ?_
        rotate_left
        ·intro w'
         go_simp
         with_reducible rfl
        rotate_left
        ·simp only [Act.put, List.setIfInBounds_toArray, List.set_cons_zero, List.set_cons_succ, i64_w, i32_w]
         rfl
        refine pure_ (i := 3) (N := some 45) (v := ?_) (a' := ?_) #[false, true, true, true, false, false, false, false, false, false, false, false, false, false] rfl rfl (any_of HT_.out (by kernel_rfl)) (fun _ _ _ h => h) (Or.inl ⟨by rfl, ?_⟩) ?_ ?_
        rotate_left
        ·intro w'
         go_simp
         with_reducible rfl
        rotate_left
        ·simp only [Act.put, List.setIfInBounds_toArray, List.set_cons_zero, List.set_cons_succ, i64_w, i32_w]
         rfl
        refine pure_ (i := 5) (N := some 47) (v := ?_) (a' := ?_) #[false, true, true, true, false, true, false, false, false, false, false, false, false, false] rfl rfl (any_of HT_.out (by kernel_rfl)) (fun _ _ _ h => h) (Or.inl ⟨by rfl, ?_⟩) ?_ ?_
        rotate_left
        ·intro w'
         go_simp
         with_reducible rfl
        rotate_left
        ·simp only [Act.put, List.setIfInBounds_toArray, List.set_cons_zero, List.set_cons_succ, i64_w, i32_w]
         rfl
        refine take_ (i := 6) (N := some 48) (v := ?_) (a' := ?_) #[false, true, true, true, false, true, true, false, false, false, false, false, false, false] rfl rfl (take_ofW HT_.out HW_.out (by kernel_rfl)) (fun _ _ _ h => h) (Or.inl ⟨by rfl, ?_⟩) hHeld ?_ ?_
        rotate_left
        ·rintro w' ⟨s0, s1, s2⟩
         go_simp
         with_reducible rfl
        rotate_left
        ·simp only [Act.put, List.setIfInBounds_toArray, List.set_cons_zero, List.set_cons_succ, i64_w, i32_w]
         rfl
        refine pure_ (i := 7) (N := some 49) (v := ?_) (a' := ?_) #[false, true, true, true, false, true, true, true, false, false, false, false, false, false] rfl rfl (any_of HT_.out (by kernel_rfl)) (fun _ _ _ h => h) (Or.inl ⟨by rfl, ?_⟩) ?_ ?_
        rotate_left
        ·intro w'
         go_simp
         with_reducible rfl
        rotate_left
        ·simp only [Act.put, List.setIfInBounds_toArray, List.set_cons_zero, List.set_cons_succ, i64_w, i32_w]
         rfl
        refine pure_ (i := 8) (N := some 50) (v := ?_) (a' := ?_) #[false, true, true, true, false, true, true, true, true, false, false, false, false, false] rfl rfl (any_of HT_.out (by kernel_rfl)) (fun _ _ _ h => h) (Or.inl ⟨by rfl, ?_⟩) ?_ ?_
        rotate_left
        ·intro w'
         go_simp
         with_reducible rfl
        rotate_left
        ·simp only [Act.put, List.setIfInBounds_toArray, List.set_cons_zero, List.set_cons_succ, i64_w, i32_w]
         rfl
        refine pure_ (i := 9) (N := some 51) (v := ?_) (a' := ?_) #[false, true, true, true, false, true, true, true, true, true, false, false, false, false] rfl rfl (any_of HT_.out (by kernel_rfl)) (fun _ _ _ h => h) (Or.inl ⟨by rfl, ?_⟩) ?_ ?_
        rotate_left
        ·intro w'
         go_simp
         with_reducible rfl
        rotate_left
        ·simp only [Act.put, List.setIfInBounds_toArray, List.set_cons_zero, List.set_cons_succ, i64_w, i32_w]
         rfl
        refine pure_ (i := 10) (N := some 52) (v := ?_) (a' := ?_) #[false, true, true, true, false, true, true, true, true, true, true, false, false, false] rfl rfl (any_of HT_.out (by kernel_rfl)) (fun _ _ _ h => h) (Or.inl ⟨by rfl, ?_⟩) ?_ ?_
        rotate_left
        ·intro w'
         go_simp
         with_reducible rfl
        rotate_left
        ·simp only [Act.put, List.setIfInBounds_toArray, List.set_cons_zero, List.set_cons_succ, i64_w, i32_w]
         rfl
        refine join_ (σ := Value × Value × Value) 2 #[true, true, true, true, true, true, true, true, true, true, true, true, false, false] (fun s_ => [(42, s_.1), (46, s_.2.1), (53, s_.2.2)]) (fun s_ w' => (w'.cell? ⟨gb101, 0, none⟩ = some (.int .u8 a2_0) ∧ w'.cell? ⟨gb101, 1, none⟩ = some (.int .u8 a2_1) ∧ w'.cell? ⟨gb101, 2, none⟩ = some (.int .u8 a2_2)) ∧ (Kd.R k31 31 w' w.heap.size (fun k_ => some k_ ≠ (.slice Ao27 t106.length co27 : Value).ownBlock ∧ some k_ ≠ (.slice Ao29 y115.length co29 : Value).ownBlock ∧ some k_ ≠ (s_.2.1 : Value).ownBlock ∧ some k_ ≠ (s_.2.2 : Value).ownBlock) (.slice Ao25 t103.length co25) t103) ∧ (Kd.R k31 31 w' w.heap.size (fun k_ => some k_ ≠ (.slice Ao25 t103.length co25 : Value).ownBlock ∧ some k_ ≠ (.slice Ao29 y115.length co29 : Value).ownBlock ∧ some k_ ≠ (s_.2.1 : Value).ownBlock ∧ some k_ ≠ (s_.2.2 : Value).ownBlock) (.slice Ao27 t106.length co27) t106) ∧ (Kd.R k31 31 w' w.heap.size (fun k_ => some k_ ≠ (.slice Ao25 t103.length co25 : Value).ownBlock ∧ some k_ ≠ (.slice Ao27 t106.length co27 : Value).ownBlock ∧ some k_ ≠ (s_.2.1 : Value).ownBlock ∧ some k_ ≠ (s_.2.2 : Value).ownBlock) (.slice Ao29 y115.length co29) y115) ∧ (Kd.R k31 31 w' w.heap.size (fun k_ => some k_ ≠ (.slice Ao25 t103.length co25 : Value).ownBlock ∧ some k_ ≠ (.slice Ao27 t106.length co27 : Value).ownBlock ∧ some k_ ≠ (.slice Ao29 y115.length co29 : Value).ownBlock ∧ some k_ ≠ (s_.2.2 : Value).ownBlock) s_.2.1 y125) ∧ (Kd.R k31 31 w' w.heap.size (fun k_ => some k_ ≠ (.slice Ao25 t103.length co25 : Value).ownBlock ∧ some k_ ≠ (.slice Ao27 t106.length co27 : Value).ownBlock ∧ some k_ ≠ (.slice Ao29 y115.length co29 : Value).ownBlock ∧ some k_ ≠ (s_.2.1 : Value).ownBlock) s_.2.2 y128) ∧ (w'.heap[gb101]? = some (.cells #[.int .u8 a2_0, .int .u8 a2_1, .int .u8 a2_2] 29 (0, 0))) ∧ (Below w.heap.size w w')) ?_ ?_
        rotate_left
        ·intro hCont
         refine two_ (i := 0) (j := 11) (Ni := some 42) (Nj := some 53) #[true, true, true, true, false, true, true, true, true, true, true, false, false, false] #[false, true, true, true, false, true, true, true, true, true, true, true, false, false] rfl rfl rfl rfl (two_of HT_.out (by kernel_rfl)) (by decide) (by decide) (fun K hK => ?_) (fun K hK => ?_)
         ·skip
          refine R_lit_step k31 _ 31 ?hg (N := 42) ?hd (xs := ([] : List (S31))) (inner := []) (ok := fun _ => True) (okp := fun _ => True) ?hr ?hp (fun _ hk => hk) trivial (Below.refl _ _) (Nat.le_refl _) (by simp) ?_; (case hd => rfl); (case hg => rfl); (case hr => first | (go_simp; done) | (go_simp; rfl)); (case hp => exact (Reps.none _ _))
          intro v119 w32 ho33 hb hg_ hnew_
          clear hg_ hnew_
          (first | rw [← Ny118.out] at ho33 | (simp only [Int.reduceToNat] at ho33; rw [← Ny118.out] at ho33))
          have n0_ := Am (R_elder' (by (with_reducible repeat (first | apply R_alloc | apply R_drewN | apply R_drew)); exact HO105.out) (R_base ho33) hb)
          have n1_ := Am (R_elder' (by (with_reducible repeat (first | apply R_alloc | apply R_drewN | apply R_drew)); exact HO108.out) (R_base ho33) hb)
          have n2_ := Am (R_elder' (by (with_reducible repeat (first | apply R_alloc | apply R_drewN | apply R_drew)); exact HO117.out) (R_base ho33) hb)
          have n3_ := Am (R_lower (R_new' (R_new' (R_new' ho33 (R_lt (by (with_reducible repeat (first | apply R_alloc | apply R_drewN | apply R_drew)); exact HO105.out))) (R_lt (by (with_reducible repeat (first | apply R_alloc | apply R_drewN | apply R_drew)); exact HO108.out))) (R_lt (by (with_reducible repeat (first | apply R_alloc | apply R_drewN | apply R_drew)); exact HO117.out))) (below_size (by repeat (first | (with_reducible first | exact HB.out | apply below_alloc | apply pw_below_drewN | apply below_drew1 | refine below_set ?_ GE101.out) | exact HB.out))))
          have n4_ := Am (blk_below (g := gb101) (o := .cells #[.int .u8 a2_0, .int .u8 a2_1, .int .u8 a2_2] 29 (0, 0)) (by (with_reducible repeat (first | refine blk_drewN ?_ _ | refine blk_drew ?_ | refine blk_alloc ?_ _)); exact BK101.out) hb)
          have n5_ := Am (C_below (by repeat (first | (with_reducible exact HR124.out) | (with_reducible refine C_alloc ?_ _) | (with_reducible refine C_drewN ?_ _) | (with_reducible refine C_drew ?_) | exact HR124.out)) hb)
          have n6_ := Am (below_step (by repeat (first | (with_reducible first | exact HB.out | apply below_alloc | apply pw_below_drewN | apply below_drew1 | refine below_set ?_ GE101.out) | exact HB.out)) hb)
          clear HO105
          clear HO108
          clear HO117
          clear BK101
          clear HR124
          clear HB
          have HO105 := n0_
          have HO108 := n1_
          have HO117 := n2_
          have HO120 := n3_
          have BK101 := n4_
          have HR124 := n5_
          have HB := n6_
          clear n0_ n1_ n2_ n3_ n4_ n5_ n6_
          clear hb ho33
          refine hK.out _ _ ⟨(blk_cell BK101.out 0).trans rfl, (blk_cell BK101.out 1).trans rfl, (blk_cell BK101.out 2).trans rfl⟩ (fun hHeld => ?_)
          clear hK K
          refine norm_ (a' := ?_) ?_ ?_
          rotate_left
          ·show Act.put _ (some 42) _ = _
           simp only [Act.put, List.setIfInBounds_toArray, List.set_cons_zero, List.set_cons_succ, i64_w, i32_w]
           rfl
          refine two_ (i := 4) (j := 11) (Ni := some 46) (Nj := some 53) #[true, true, true, true, true, true, true, true, true, true, true, false, false, false] #[true, true, true, true, false, true, true, true, true, true, true, true, false, false] rfl rfl rfl rfl (two_of HT_.out (by kernel_rfl)) (by decide) (by decide) (fun K hK => ?_) (fun K hK => ?_)
          ·skip
           refine R_append_rows_step k31 (w0 := w) w.heap.size (by rfl) (.tmp 42) (.tmp 45) 22 31 (.agg #[(.int .i64 0), (.int .i64 0), (.string ⟨#[]⟩)]) 32 rfl Try.underlying22 info31 rfl (by decide) (by omega) v119 y118 y121 _ _ _ (fun k_ => some k_ ≠ (.slice Ao25 t103.length co25 : Value).ownBlock ∧ some k_ ≠ (.slice Ao27 t106.length co27 : Value).ownBlock ∧ some k_ ≠ (.slice Ao29 y115.length co29 : Value).ownBlock) (fun _ => False) rfl rfl ?aO ?aR (fun _ _ h => h) (fun _ h => h.elim) ?aF ?aB ?aS ?aL ?_
           (case aR => repeat (first | exact (by repeat (first | (with_reducible exact HR124.out) | (with_reducible refine C_alloc ?_ _) | (with_reducible refine C_drewN ?_ _) | (with_reducible refine C_drew ?_) | exact HR124.out)) | (with_reducible refine C_alloc ?_ _) | (with_reducible refine C_drewN ?_ _) | (with_reducible refine C_drew ?_)))
           (case aB => exact (by repeat (first | (with_reducible first | exact HB.out | apply below_alloc | apply pw_below_drewN | apply below_drew1 | refine below_set ?_ GE101.out) | exact HB.out)))
           (case aF => exact (fun k_ hk => ⟨Kd.fresh' (R_lt (by (with_reducible repeat (first | apply R_alloc | apply R_drewN | apply R_drew)); exact HO105.out)) k_ hk, Kd.fresh' (R_lt (by (with_reducible repeat (first | apply R_alloc | apply R_drewN | apply R_drew)); exact HO108.out)) k_ hk, Kd.fresh' (R_lt (by (with_reducible repeat (first | apply R_alloc | apply R_drewN | apply R_drew)); exact HO117.out)) k_ hk⟩))
           (case aO => exact (by (with_reducible repeat (first | apply R_alloc | apply R_drewN | apply R_drew)); exact R_mono HO120.out (fun _ hk => ⟨hk.1.1.2, ⟨hk.1.2, hk.2⟩⟩)))
           (case aS => exact (below_size (by repeat (first | (with_reducible first | exact HB.out | apply below_alloc | apply pw_below_drewN | apply below_drew1 | refine below_set ?_ GE101.out) | exact HB.out))))
           (case aL => have := LMc13.out; omega)
           intro v126 w34 ho hb hg hat
           rw [← Ny125.out] at ho
           have n0_ := Am (blk_grown (g := gb101) (o := .cells #[.int .u8 a2_0, .int .u8 a2_1, .int .u8 a2_2] 29 (0, 0)) (by (with_reducible repeat (first | refine blk_drewN ?_ _ | refine blk_drew ?_ | refine blk_alloc ?_ _)); exact BK101.out) hg (R_ne HO120.out BK101.out (by decide)))
           have n1_ := Am (R_after (ok := (fun k_ => some k_ ≠ (.slice Ao27 t106.length co27 : Value).ownBlock ∧ some k_ ≠ (.slice Ao29 y115.length co29 : Value).ownBlock)) (by (with_reducible repeat (first | apply R_alloc | apply R_drewN | apply R_drew)); exact HO105.out) hg hat)
           have n2_ := Am (R_after (ok := (fun k_ => some k_ ≠ (.slice Ao25 t103.length co25 : Value).ownBlock ∧ some k_ ≠ (.slice Ao29 y115.length co29 : Value).ownBlock)) (by (with_reducible repeat (first | apply R_alloc | apply R_drewN | apply R_drew)); exact HO108.out) hg hat)
           have n3_ := Am (R_after (ok := (fun k_ => some k_ ≠ (.slice Ao25 t103.length co25 : Value).ownBlock ∧ some k_ ≠ (.slice Ao27 t106.length co27 : Value).ownBlock)) (by (with_reducible repeat (first | apply R_alloc | apply R_drewN | apply R_drew)); exact HO117.out) hg hat)
           have n4_ := Am (hb)
           have n5_ := Am ((show Kd.C k31 w34 Ao29 y121.length y121 from by rw [Ny121.out]; exact C_take (m := ((ji10) : Int).toNat) ((R_reads' (R_after (ok := (fun k_ => some k_ ≠ (.slice Ao25 t103.length co25 : Value).ownBlock ∧ some k_ ≠ (.slice Ao27 t106.length co27 : Value).ownBlock)) (by (with_reducible repeat (first | apply R_alloc | apply R_drewN | apply R_drew)); exact HO117.out) hg hat)).2.2) KL31.out))
           have n6_ := Am (ho)
           clear BK101
           clear HO105
           clear HO108
           clear HO117
           clear HB
           clear HR124
           clear HO120
           have BK101 := n0_
           have HO105 := n1_
           have HO108 := n2_
           have HO117 := n3_
           have HB := n4_
           have HR124 := n5_
           have HO127 := n6_
           clear n0_ n1_ n2_ n3_ n4_ n5_ n6_
           clear ho hb hg hat
           refine hK.out _ _ ⟨(blk_cell BK101.out 0).trans rfl, (blk_cell BK101.out 1).trans rfl, (blk_cell BK101.out 2).trans rfl⟩ (fun hHeld => ?_)
           clear hK K
           refine norm_ (a' := ?_) ?_ ?_
           rotate_left
           ·show Act.put _ (some 46) _ = _
            simp only [Act.put, List.setIfInBounds_toArray, List.set_cons_zero, List.set_cons_succ, i64_w, i32_w]
            rfl
           refine one_ (i := 11) (N := some 53) #[true, true, true, true, true, true, true, true, true, true, true, true, false, false] rfl rfl (one_of HT_.out (by kernel_rfl)) (by decide) (fun K hK => ?_)
           refine R_lit_step k31 _ 31 ?hg (N := 53) ?hd (xs := ([(⟨wrap64 (1 + (wrap64 (Int.tmod a2_0 3))), 0, (⟨#[]⟩ : ByteArray)⟩ : S31)] : List (S31))) (inner := [.int .i64 (wrap64 (1 + (wrap64 (Int.tmod a2_0 3)))), .int .i64 0, .string (⟨#[]⟩ : ByteArray)]) (ok := fun _ => True) (okp := fun _ => True) ?hr ?hp (fun _ hk => hk) trivial (Below.refl _ _) (Nat.le_refl _) (by simp) ?_; (case hd => rfl); (case hg => rfl); (case hr => first | (go_simp; done) | (go_simp; rfl)); (case hp => exact (Reps.c3 (show Kd.M k31 _ _ _ (⟨wrap64 (1 + (wrap64 (Int.tmod a2_0 3))), 0, (⟨#[]⟩ : ByteArray)⟩ : S31) [.int .i64 (wrap64 (1 + (wrap64 (Int.tmod a2_0 3)))), .int .i64 0, .string (⟨#[]⟩ : ByteArray)] from (k31_mkM _ _ _ (⟨wrap64 (1 + (wrap64 (Int.tmod a2_0 3))), 0, (⟨#[]⟩ : ByteArray)⟩ : S31) )) (Reps.none _ _)))
           intro v129 w35 ho36 hb hg_ hnew_
           clear hg_ hnew_
           (first | rw [← Ny128.out] at ho36 | (simp only [Int.reduceToNat] at ho36; rw [← Ny128.out] at ho36))
           have n0_ := Am (R_elder' (by (with_reducible repeat (first | apply R_alloc | apply R_drewN | apply R_drew)); exact HO105.out) (R_base ho36) hb)
           have n1_ := Am (R_elder' (by (with_reducible repeat (first | apply R_alloc | apply R_drewN | apply R_drew)); exact HO108.out) (R_base ho36) hb)
           have n2_ := Am (R_elder' (by (with_reducible repeat (first | apply R_alloc | apply R_drewN | apply R_drew)); exact HO117.out) (R_base ho36) hb)
           have n3_ := Am (R_elder' (by (with_reducible repeat (first | apply R_alloc | apply R_drewN | apply R_drew)); exact HO127.out) (R_base ho36) hb)
           have n4_ := Am (R_lower (R_new' (R_new' (R_new' (R_new' ho36 (R_lt (by (with_reducible repeat (first | apply R_alloc | apply R_drewN | apply R_drew)); exact HO105.out))) (R_lt (by (with_reducible repeat (first | apply R_alloc | apply R_drewN | apply R_drew)); exact HO108.out))) (R_lt (by (with_reducible repeat (first | apply R_alloc | apply R_drewN | apply R_drew)); exact HO117.out))) (R_lt (by (with_reducible repeat (first | apply R_alloc | apply R_drewN | apply R_drew)); exact HO127.out))) (below_size (by repeat (first | (with_reducible first | exact HB.out | apply below_alloc | apply pw_below_drewN | apply below_drew1 | refine below_set ?_ GE101.out) | exact HB.out))))
           have n5_ := Am (blk_below (g := gb101) (o := .cells #[.int .u8 a2_0, .int .u8 a2_1, .int .u8 a2_2] 29 (0, 0)) (by (with_reducible repeat (first | refine blk_drewN ?_ _ | refine blk_drew ?_ | refine blk_alloc ?_ _)); exact BK101.out) hb)
           have n6_ := Am (C_below (by repeat (first | (with_reducible exact HR124.out) | (with_reducible refine C_alloc ?_ _) | (with_reducible refine C_drewN ?_ _) | (with_reducible refine C_drew ?_) | exact HR124.out)) hb)
           have n7_ := Am (below_step (by repeat (first | (with_reducible first | exact HB.out | apply below_alloc | apply pw_below_drewN | apply below_drew1 | refine below_set ?_ GE101.out) | exact HB.out)) hb)
           clear HO105
           clear HO108
           clear HO117
           clear HO127
           clear BK101
           clear HR124
           clear HB
           have HO105 := n0_
           have HO108 := n1_
           have HO117 := n2_
           have HO127 := n3_
           have HO130 := n4_
           have BK101 := n5_
           have HR124 := n6_
           have HB := n7_
           clear n0_ n1_ n2_ n3_ n4_ n5_ n6_ n7_
           clear hb ho36
           refine hK.out _ _ ⟨(blk_cell BK101.out 0).trans rfl, (blk_cell BK101.out 1).trans rfl, (blk_cell BK101.out 2).trans rfl⟩ (fun hHeld => ?_)
           clear hK K
           refine norm_ (a' := ?_) ?_ ?_
           rotate_left
           ·show Act.put _ (some 53) _ = _
            simp only [Act.put, List.setIfInBounds_toArray, List.set_cons_zero, List.set_cons_succ, i64_w, i32_w]
            rfl
           exact norm_ (by simp only [putAll, Act.put, List.setIfInBounds_toArray, List.set_cons_zero, List.set_cons_succ]) (hCont (v119, v126, v129) _ ⟨hHeld, (by (with_reducible repeat (first | apply R_alloc | apply R_drewN | apply R_drew)); exact R_mono HO105.out (fun _ hk => ⟨hk.1.1.1, ⟨hk.1.1.2, ⟨hk.1.2, hk.2⟩⟩⟩)), (by (with_reducible repeat (first | apply R_alloc | apply R_drewN | apply R_drew)); exact R_mono HO108.out (fun _ hk => ⟨hk.1.1.1, ⟨hk.1.1.2, ⟨hk.1.2, hk.2⟩⟩⟩)), (by (with_reducible repeat (first | apply R_alloc | apply R_drewN | apply R_drew)); exact R_mono HO117.out (fun _ hk => ⟨hk.1.1.1, ⟨hk.1.1.2, ⟨hk.1.2, hk.2⟩⟩⟩)), (by (with_reducible repeat (first | apply R_alloc | apply R_drewN | apply R_drew)); exact R_mono HO127.out (fun _ hk => ⟨hk.1.1, ⟨hk.1.2.1, ⟨hk.1.2.2, hk.2⟩⟩⟩)), (by (with_reducible repeat (first | apply R_alloc | apply R_drewN | apply R_drew)); exact R_mono HO130.out (fun _ hk => ⟨hk.1.1.1.2, ⟨hk.1.1.2, ⟨hk.1.2, hk.2⟩⟩⟩)), (by (with_reducible repeat (first | refine blk_drewN ?_ _ | refine blk_drew ?_ | refine blk_alloc ?_ _)); exact BK101.out), (by repeat (first | (with_reducible first | exact HB.out | apply below_alloc | apply pw_below_drewN | apply below_drew1 | refine below_set ?_ GE101.out) | exact HB.out))⟩)
          ·skip
           refine R_lit_step k31 _ 31 ?hg (N := 53) ?hd (xs := ([(⟨wrap64 (1 + (wrap64 (Int.tmod a2_0 3))), 0, (⟨#[]⟩ : ByteArray)⟩ : S31)] : List (S31))) (inner := [.int .i64 (wrap64 (1 + (wrap64 (Int.tmod a2_0 3)))), .int .i64 0, .string (⟨#[]⟩ : ByteArray)]) (ok := fun _ => True) (okp := fun _ => True) ?hr ?hp (fun _ hk => hk) trivial (Below.refl _ _) (Nat.le_refl _) (by simp) ?_; (case hd => rfl); (case hg => rfl); (case hr => first | (go_simp; done) | (go_simp; rfl)); (case hp => exact (Reps.c3 (show Kd.M k31 _ _ _ (⟨wrap64 (1 + (wrap64 (Int.tmod a2_0 3))), 0, (⟨#[]⟩ : ByteArray)⟩ : S31) [.int .i64 (wrap64 (1 + (wrap64 (Int.tmod a2_0 3)))), .int .i64 0, .string (⟨#[]⟩ : ByteArray)] from (k31_mkM _ _ _ (⟨wrap64 (1 + (wrap64 (Int.tmod a2_0 3))), 0, (⟨#[]⟩ : ByteArray)⟩ : S31) )) (Reps.none _ _)))
           intro v129 w34 ho35 hb hg_ hnew_
           clear hg_ hnew_
           (first | rw [← Ny128.out] at ho35 | (simp only [Int.reduceToNat] at ho35; rw [← Ny128.out] at ho35))
           have n0_ := Am (R_elder' (by (with_reducible repeat (first | apply R_alloc | apply R_drewN | apply R_drew)); exact HO105.out) (R_base ho35) hb)
           have n1_ := Am (R_elder' (by (with_reducible repeat (first | apply R_alloc | apply R_drewN | apply R_drew)); exact HO108.out) (R_base ho35) hb)
           have n2_ := Am (R_elder' (by (with_reducible repeat (first | apply R_alloc | apply R_drewN | apply R_drew)); exact HO117.out) (R_base ho35) hb)
           have n3_ := Am (R_elder' (by (with_reducible repeat (first | apply R_alloc | apply R_drewN | apply R_drew)); exact HO120.out) (R_base ho35) hb)
           have n4_ := Am (R_lower (R_new' (R_new' (R_new' (R_new' ho35 (R_lt (by (with_reducible repeat (first | apply R_alloc | apply R_drewN | apply R_drew)); exact HO105.out))) (R_lt (by (with_reducible repeat (first | apply R_alloc | apply R_drewN | apply R_drew)); exact HO108.out))) (R_lt (by (with_reducible repeat (first | apply R_alloc | apply R_drewN | apply R_drew)); exact HO117.out))) (R_lt (by (with_reducible repeat (first | apply R_alloc | apply R_drewN | apply R_drew)); exact HO120.out))) (below_size (by repeat (first | (with_reducible first | exact HB.out | apply below_alloc | apply pw_below_drewN | apply below_drew1 | refine below_set ?_ GE101.out) | exact HB.out))))
           have n5_ := Am (blk_below (g := gb101) (o := .cells #[.int .u8 a2_0, .int .u8 a2_1, .int .u8 a2_2] 29 (0, 0)) (by (with_reducible repeat (first | refine blk_drewN ?_ _ | refine blk_drew ?_ | refine blk_alloc ?_ _)); exact BK101.out) hb)
           have n6_ := Am (C_below (by repeat (first | (with_reducible exact HR124.out) | (with_reducible refine C_alloc ?_ _) | (with_reducible refine C_drewN ?_ _) | (with_reducible refine C_drew ?_) | exact HR124.out)) hb)
           have n7_ := Am (below_step (by repeat (first | (with_reducible first | exact HB.out | apply below_alloc | apply pw_below_drewN | apply below_drew1 | refine below_set ?_ GE101.out) | exact HB.out)) hb)
           clear HO105
           clear HO108
           clear HO117
           clear HO120
           clear BK101
           clear HR124
           clear HB
           have HO105 := n0_
           have HO108 := n1_
           have HO117 := n2_
           have HO120 := n3_
           have HO130 := n4_
           have BK101 := n5_
           have HR124 := n6_
           have HB := n7_
           clear n0_ n1_ n2_ n3_ n4_ n5_ n6_ n7_
           clear hb ho35
           refine hK.out _ _ ⟨(blk_cell BK101.out 0).trans rfl, (blk_cell BK101.out 1).trans rfl, (blk_cell BK101.out 2).trans rfl⟩ (fun hHeld => ?_)
           clear hK K
           refine norm_ (a' := ?_) ?_ ?_
           rotate_left
           ·show Act.put _ (some 53) _ = _
            simp only [Act.put, List.setIfInBounds_toArray, List.set_cons_zero, List.set_cons_succ, i64_w, i32_w]
            rfl
           refine one_ (i := 4) (N := some 46) #[true, true, true, true, true, true, true, true, true, true, true, true, false, false] rfl rfl (one_of HT_.out (by kernel_rfl)) (by decide) (fun K hK => ?_)
           refine R_append_rows_step k31 (w0 := w) w.heap.size (by rfl) (.tmp 42) (.tmp 45) 22 31 (.agg #[(.int .i64 0), (.int .i64 0), (.string ⟨#[]⟩)]) 32 rfl Try.underlying22 info31 rfl (by decide) (by omega) v119 y118 y121 _ _ _ (fun k_ => some k_ ≠ (.slice Ao25 t103.length co25 : Value).ownBlock ∧ some k_ ≠ (.slice Ao27 t106.length co27 : Value).ownBlock ∧ some k_ ≠ (.slice Ao29 y115.length co29 : Value).ownBlock ∧ some k_ ≠ (v129 : Value).ownBlock) (fun _ => False) rfl rfl ?aO ?aR (fun _ _ h => h) (fun _ h => h.elim) ?aF ?aB ?aS ?aL ?_
           (case aR => repeat (first | exact (by repeat (first | (with_reducible exact HR124.out) | (with_reducible refine C_alloc ?_ _) | (with_reducible refine C_drewN ?_ _) | (with_reducible refine C_drew ?_) | exact HR124.out)) | (with_reducible refine C_alloc ?_ _) | (with_reducible refine C_drewN ?_ _) | (with_reducible refine C_drew ?_)))
           (case aB => exact (by repeat (first | (with_reducible first | exact HB.out | apply below_alloc | apply pw_below_drewN | apply below_drew1 | refine below_set ?_ GE101.out) | exact HB.out)))
           (case aF => exact (fun k_ hk => ⟨Kd.fresh' (R_lt (by (with_reducible repeat (first | apply R_alloc | apply R_drewN | apply R_drew)); exact HO105.out)) k_ hk, Kd.fresh' (R_lt (by (with_reducible repeat (first | apply R_alloc | apply R_drewN | apply R_drew)); exact HO108.out)) k_ hk, Kd.fresh' (R_lt (by (with_reducible repeat (first | apply R_alloc | apply R_drewN | apply R_drew)); exact HO117.out)) k_ hk, Kd.fresh' (R_lt (by (with_reducible repeat (first | apply R_alloc | apply R_drewN | apply R_drew)); exact HO130.out)) k_ hk⟩))
           (case aO => exact (by (with_reducible repeat (first | apply R_alloc | apply R_drewN | apply R_drew)); exact R_mono HO120.out (fun _ hk => ⟨hk.1.1.1.2, ⟨hk.1.1.2, ⟨hk.1.2, hk.2⟩⟩⟩)))
           (case aS => exact (below_size (by repeat (first | (with_reducible first | exact HB.out | apply below_alloc | apply pw_below_drewN | apply below_drew1 | refine below_set ?_ GE101.out) | exact HB.out))))
           (case aL => have := LMc13.out; omega)
           intro v126 w36 ho hb hg hat
           rw [← Ny125.out] at ho
           have n0_ := Am (blk_grown (g := gb101) (o := .cells #[.int .u8 a2_0, .int .u8 a2_1, .int .u8 a2_2] 29 (0, 0)) (by (with_reducible repeat (first | refine blk_drewN ?_ _ | refine blk_drew ?_ | refine blk_alloc ?_ _)); exact BK101.out) hg (R_ne HO120.out BK101.out (by decide)))
           have n1_ := Am (R_after (ok := (fun k_ => some k_ ≠ (.slice Ao27 t106.length co27 : Value).ownBlock ∧ some k_ ≠ (.slice Ao29 y115.length co29 : Value).ownBlock ∧ some k_ ≠ (v129 : Value).ownBlock)) (by (with_reducible repeat (first | apply R_alloc | apply R_drewN | apply R_drew)); exact R_mono HO105.out (fun _ hk => ⟨⟨hk.1.1.1, ⟨hk.1.1.2, hk.2⟩⟩, hk.1.2⟩)) hg hat)
           have n2_ := Am (R_after (ok := (fun k_ => some k_ ≠ (.slice Ao25 t103.length co25 : Value).ownBlock ∧ some k_ ≠ (.slice Ao29 y115.length co29 : Value).ownBlock ∧ some k_ ≠ (v129 : Value).ownBlock)) (by (with_reducible repeat (first | apply R_alloc | apply R_drewN | apply R_drew)); exact R_mono HO108.out (fun _ hk => ⟨⟨hk.1.1.1, ⟨hk.1.1.2, hk.2⟩⟩, hk.1.2⟩)) hg hat)
           have n3_ := Am (R_after (ok := (fun k_ => some k_ ≠ (.slice Ao25 t103.length co25 : Value).ownBlock ∧ some k_ ≠ (.slice Ao27 t106.length co27 : Value).ownBlock ∧ some k_ ≠ (v129 : Value).ownBlock)) (by (with_reducible repeat (first | apply R_alloc | apply R_drewN | apply R_drew)); exact R_mono HO117.out (fun _ hk => ⟨⟨hk.1.1.1, ⟨hk.1.1.2, hk.2⟩⟩, hk.1.2⟩)) hg hat)
           have n4_ := Am (R_after (ok := (fun k_ => some k_ ≠ (.slice Ao25 t103.length co25 : Value).ownBlock ∧ some k_ ≠ (.slice Ao27 t106.length co27 : Value).ownBlock ∧ some k_ ≠ (.slice Ao29 y115.length co29 : Value).ownBlock)) (by (with_reducible repeat (first | apply R_alloc | apply R_drewN | apply R_drew)); exact R_mono HO130.out (fun _ hk => ⟨⟨hk.1.1.1.2, ⟨hk.1.1.2, hk.1.2⟩⟩, hk.2⟩)) hg hat)
           have n5_ := Am (hb)
           have n6_ := Am ((show Kd.C k31 w36 Ao29 y121.length y121 from by rw [Ny121.out]; exact C_take (m := ((ji10) : Int).toNat) ((R_reads' (R_after (ok := (fun k_ => some k_ ≠ (.slice Ao25 t103.length co25 : Value).ownBlock ∧ some k_ ≠ (.slice Ao27 t106.length co27 : Value).ownBlock ∧ some k_ ≠ (v129 : Value).ownBlock)) (by (with_reducible repeat (first | apply R_alloc | apply R_drewN | apply R_drew)); exact R_mono HO117.out (fun _ hk => ⟨⟨hk.1.1.1, ⟨hk.1.1.2, hk.2⟩⟩, hk.1.2⟩)) hg hat)).2.2) KL31.out))
           have n7_ := Am (ho)
           clear BK101
           clear HO105
           clear HO108
           clear HO117
           clear HO130
           clear HB
           clear HR124
           clear HO120
           have BK101 := n0_
           have HO105 := n1_
           have HO108 := n2_
           have HO117 := n3_
           have HO130 := n4_
           have HB := n5_
           have HR124 := n6_
           have HO127 := n7_
           clear n0_ n1_ n2_ n3_ n4_ n5_ n6_ n7_
           clear ho hb hg hat
           refine hK.out _ _ ⟨(blk_cell BK101.out 0).trans rfl, (blk_cell BK101.out 1).trans rfl, (blk_cell BK101.out 2).trans rfl⟩ (fun hHeld => ?_)
           clear hK K
           refine norm_ (a' := ?_) ?_ ?_
           rotate_left
           ·show Act.put _ (some 46) _ = _
            simp only [Act.put, List.setIfInBounds_toArray, List.set_cons_zero, List.set_cons_succ, i64_w, i32_w]
            rfl
           exact norm_ (by simp only [putAll, Act.put, List.setIfInBounds_toArray, List.set_cons_zero, List.set_cons_succ]) (hCont (v119, v126, v129) _ ⟨hHeld, (by (with_reducible repeat (first | apply R_alloc | apply R_drewN | apply R_drew)); exact R_mono HO105.out (fun _ hk => ⟨hk.1.1, ⟨hk.1.2.1, ⟨hk.2, hk.1.2.2⟩⟩⟩)), (by (with_reducible repeat (first | apply R_alloc | apply R_drewN | apply R_drew)); exact R_mono HO108.out (fun _ hk => ⟨hk.1.1, ⟨hk.1.2.1, ⟨hk.2, hk.1.2.2⟩⟩⟩)), (by (with_reducible repeat (first | apply R_alloc | apply R_drewN | apply R_drew)); exact R_mono HO117.out (fun _ hk => ⟨hk.1.1, ⟨hk.1.2.1, ⟨hk.2, hk.1.2.2⟩⟩⟩)), (by (with_reducible repeat (first | apply R_alloc | apply R_drewN | apply R_drew)); exact HO127.out), (by (with_reducible repeat (first | apply R_alloc | apply R_drewN | apply R_drew)); exact R_mono HO130.out (fun _ hk => ⟨hk.1.1, ⟨hk.1.2.1, ⟨hk.1.2.2, hk.2⟩⟩⟩)), (by (with_reducible repeat (first | refine blk_drewN ?_ _ | refine blk_drew ?_ | refine blk_alloc ?_ _)); exact BK101.out), (by repeat (first | (with_reducible first | exact HB.out | apply below_alloc | apply pw_below_drewN | apply below_drew1 | refine below_set ?_ GE101.out) | exact HB.out))⟩)
         ·skip
          refine R_lit_step k31 _ 31 ?hg (N := 53) ?hd (xs := ([(⟨wrap64 (1 + (wrap64 (Int.tmod a2_0 3))), 0, (⟨#[]⟩ : ByteArray)⟩ : S31)] : List (S31))) (inner := [.int .i64 (wrap64 (1 + (wrap64 (Int.tmod a2_0 3)))), .int .i64 0, .string (⟨#[]⟩ : ByteArray)]) (ok := fun _ => True) (okp := fun _ => True) ?hr ?hp (fun _ hk => hk) trivial (Below.refl _ _) (Nat.le_refl _) (by simp) ?_; (case hd => rfl); (case hg => rfl); (case hr => first | (go_simp; done) | (go_simp; rfl)); (case hp => exact (Reps.c3 (show Kd.M k31 _ _ _ (⟨wrap64 (1 + (wrap64 (Int.tmod a2_0 3))), 0, (⟨#[]⟩ : ByteArray)⟩ : S31) [.int .i64 (wrap64 (1 + (wrap64 (Int.tmod a2_0 3)))), .int .i64 0, .string (⟨#[]⟩ : ByteArray)] from (k31_mkM _ _ _ (⟨wrap64 (1 + (wrap64 (Int.tmod a2_0 3))), 0, (⟨#[]⟩ : ByteArray)⟩ : S31) )) (Reps.none _ _)))
          intro v129 w32 ho33 hb hg_ hnew_
          clear hg_ hnew_
          (first | rw [← Ny128.out] at ho33 | (simp only [Int.reduceToNat] at ho33; rw [← Ny128.out] at ho33))
          have n0_ := Am (R_elder' (by (with_reducible repeat (first | apply R_alloc | apply R_drewN | apply R_drew)); exact HO105.out) (R_base ho33) hb)
          have n1_ := Am (R_elder' (by (with_reducible repeat (first | apply R_alloc | apply R_drewN | apply R_drew)); exact HO108.out) (R_base ho33) hb)
          have n2_ := Am (R_elder' (by (with_reducible repeat (first | apply R_alloc | apply R_drewN | apply R_drew)); exact HO117.out) (R_base ho33) hb)
          have n3_ := Am (R_lower (R_new' (R_new' (R_new' ho33 (R_lt (by (with_reducible repeat (first | apply R_alloc | apply R_drewN | apply R_drew)); exact HO105.out))) (R_lt (by (with_reducible repeat (first | apply R_alloc | apply R_drewN | apply R_drew)); exact HO108.out))) (R_lt (by (with_reducible repeat (first | apply R_alloc | apply R_drewN | apply R_drew)); exact HO117.out))) (below_size (by repeat (first | (with_reducible first | exact HB.out | apply below_alloc | apply pw_below_drewN | apply below_drew1 | refine below_set ?_ GE101.out) | exact HB.out))))
          have n4_ := Am (blk_below (g := gb101) (o := .cells #[.int .u8 a2_0, .int .u8 a2_1, .int .u8 a2_2] 29 (0, 0)) (by (with_reducible repeat (first | refine blk_drewN ?_ _ | refine blk_drew ?_ | refine blk_alloc ?_ _)); exact BK101.out) hb)
          have n5_ := Am (C_below (by repeat (first | (with_reducible exact HR124.out) | (with_reducible refine C_alloc ?_ _) | (with_reducible refine C_drewN ?_ _) | (with_reducible refine C_drew ?_) | exact HR124.out)) hb)
          have n6_ := Am (below_step (by repeat (first | (with_reducible first | exact HB.out | apply below_alloc | apply pw_below_drewN | apply below_drew1 | refine below_set ?_ GE101.out) | exact HB.out)) hb)
          clear HO105
          clear HO108
          clear HO117
          clear BK101
          clear HR124
          clear HB
          have HO105 := n0_
          have HO108 := n1_
          have HO117 := n2_
          have HO130 := n3_
          have BK101 := n4_
          have HR124 := n5_
          have HB := n6_
          clear n0_ n1_ n2_ n3_ n4_ n5_ n6_
          clear hb ho33
          refine hK.out _ _ ⟨(blk_cell BK101.out 0).trans rfl, (blk_cell BK101.out 1).trans rfl, (blk_cell BK101.out 2).trans rfl⟩ (fun hHeld => ?_)
          clear hK K
          refine norm_ (a' := ?_) ?_ ?_
          rotate_left
          ·show Act.put _ (some 53) _ = _
           simp only [Act.put, List.setIfInBounds_toArray, List.set_cons_zero, List.set_cons_succ, i64_w, i32_w]
           rfl
          refine one_ (i := 0) (N := some 42) #[true, true, true, true, false, true, true, true, true, true, true, true, false, false] rfl rfl (one_of HT_.out (by kernel_rfl)) (by decide) (fun K hK => ?_)
          refine R_lit_step k31 _ 31 ?hg (N := 42) ?hd (xs := ([] : List (S31))) (inner := []) (ok := fun _ => True) (okp := fun _ => True) ?hr ?hp (fun _ hk => hk) trivial (Below.refl _ _) (Nat.le_refl _) (by simp) ?_; (case hd => rfl); (case hg => rfl); (case hr => first | (go_simp; done) | (go_simp; rfl)); (case hp => exact (Reps.none _ _))
          intro v119 w34 ho35 hb hg_ hnew_
          clear hg_ hnew_
          (first | rw [← Ny118.out] at ho35 | (simp only [Int.reduceToNat] at ho35; rw [← Ny118.out] at ho35))
          have n0_ := Am (R_elder' (by (with_reducible repeat (first | apply R_alloc | apply R_drewN | apply R_drew)); exact HO105.out) (R_base ho35) hb)
          have n1_ := Am (R_elder' (by (with_reducible repeat (first | apply R_alloc | apply R_drewN | apply R_drew)); exact HO108.out) (R_base ho35) hb)
          have n2_ := Am (R_elder' (by (with_reducible repeat (first | apply R_alloc | apply R_drewN | apply R_drew)); exact HO117.out) (R_base ho35) hb)
          have n3_ := Am (R_elder' (by (with_reducible repeat (first | apply R_alloc | apply R_drewN | apply R_drew)); exact HO130.out) (R_base ho35) hb)
          have n4_ := Am (R_lower (R_new' (R_new' (R_new' (R_new' ho35 (R_lt (by (with_reducible repeat (first | apply R_alloc | apply R_drewN | apply R_drew)); exact HO105.out))) (R_lt (by (with_reducible repeat (first | apply R_alloc | apply R_drewN | apply R_drew)); exact HO108.out))) (R_lt (by (with_reducible repeat (first | apply R_alloc | apply R_drewN | apply R_drew)); exact HO117.out))) (R_lt (by (with_reducible repeat (first | apply R_alloc | apply R_drewN | apply R_drew)); exact HO130.out))) (below_size (by repeat (first | (with_reducible first | exact HB.out | apply below_alloc | apply pw_below_drewN | apply below_drew1 | refine below_set ?_ GE101.out) | exact HB.out))))
          have n5_ := Am (blk_below (g := gb101) (o := .cells #[.int .u8 a2_0, .int .u8 a2_1, .int .u8 a2_2] 29 (0, 0)) (by (with_reducible repeat (first | refine blk_drewN ?_ _ | refine blk_drew ?_ | refine blk_alloc ?_ _)); exact BK101.out) hb)
          have n6_ := Am (C_below (by repeat (first | (with_reducible exact HR124.out) | (with_reducible refine C_alloc ?_ _) | (with_reducible refine C_drewN ?_ _) | (with_reducible refine C_drew ?_) | exact HR124.out)) hb)
          have n7_ := Am (below_step (by repeat (first | (with_reducible first | exact HB.out | apply below_alloc | apply pw_below_drewN | apply below_drew1 | refine below_set ?_ GE101.out) | exact HB.out)) hb)
          clear HO105
          clear HO108
          clear HO117
          clear HO130
          clear BK101
          clear HR124
          clear HB
          have HO105 := n0_
          have HO108 := n1_
          have HO117 := n2_
          have HO130 := n3_
          have HO120 := n4_
          have BK101 := n5_
          have HR124 := n6_
          have HB := n7_
          clear n0_ n1_ n2_ n3_ n4_ n5_ n6_ n7_
          clear hb ho35
          refine hK.out _ _ ⟨(blk_cell BK101.out 0).trans rfl, (blk_cell BK101.out 1).trans rfl, (blk_cell BK101.out 2).trans rfl⟩ (fun hHeld => ?_)
          clear hK K
          refine norm_ (a' := ?_) ?_ ?_
          rotate_left
          ·show Act.put _ (some 42) _ = _
           simp only [Act.put, List.setIfInBounds_toArray, List.set_cons_zero, List.set_cons_succ, i64_w, i32_w]
           rfl
          refine one_ (i := 4) (N := some 46) #[true, true, true, true, true, true, true, true, true, true, true, true, false, false] rfl rfl (one_of HT_.out (by kernel_rfl)) (by decide) (fun K hK => ?_)
          refine R_append_rows_step k31 (w0 := w) w.heap.size (by rfl) (.tmp 42) (.tmp 45) 22 31 (.agg #[(.int .i64 0), (.int .i64 0), (.string ⟨#[]⟩)]) 32 rfl Try.underlying22 info31 rfl (by decide) (by omega) v119 y118 y121 _ _ _ (fun k_ => some k_ ≠ (.slice Ao25 t103.length co25 : Value).ownBlock ∧ some k_ ≠ (.slice Ao27 t106.length co27 : Value).ownBlock ∧ some k_ ≠ (.slice Ao29 y115.length co29 : Value).ownBlock ∧ some k_ ≠ (v129 : Value).ownBlock) (fun _ => False) rfl rfl ?aO ?aR (fun _ _ h => h) (fun _ h => h.elim) ?aF ?aB ?aS ?aL ?_
          (case aR => repeat (first | exact (by repeat (first | (with_reducible exact HR124.out) | (with_reducible refine C_alloc ?_ _) | (with_reducible refine C_drewN ?_ _) | (with_reducible refine C_drew ?_) | exact HR124.out)) | (with_reducible refine C_alloc ?_ _) | (with_reducible refine C_drewN ?_ _) | (with_reducible refine C_drew ?_)))
          (case aB => exact (by repeat (first | (with_reducible first | exact HB.out | apply below_alloc | apply pw_below_drewN | apply below_drew1 | refine below_set ?_ GE101.out) | exact HB.out)))
          (case aF => exact (fun k_ hk => ⟨Kd.fresh' (R_lt (by (with_reducible repeat (first | apply R_alloc | apply R_drewN | apply R_drew)); exact HO105.out)) k_ hk, Kd.fresh' (R_lt (by (with_reducible repeat (first | apply R_alloc | apply R_drewN | apply R_drew)); exact HO108.out)) k_ hk, Kd.fresh' (R_lt (by (with_reducible repeat (first | apply R_alloc | apply R_drewN | apply R_drew)); exact HO117.out)) k_ hk, Kd.fresh' (R_lt (by (with_reducible repeat (first | apply R_alloc | apply R_drewN | apply R_drew)); exact HO130.out)) k_ hk⟩))
          (case aO => exact (by (with_reducible repeat (first | apply R_alloc | apply R_drewN | apply R_drew)); exact R_mono HO120.out (fun _ hk => ⟨hk.1.1.1.2, ⟨hk.1.1.2, ⟨hk.1.2, hk.2⟩⟩⟩)))
          (case aS => exact (below_size (by repeat (first | (with_reducible first | exact HB.out | apply below_alloc | apply pw_below_drewN | apply below_drew1 | refine below_set ?_ GE101.out) | exact HB.out))))
          (case aL => have := LMc13.out; omega)
          intro v126 w36 ho hb hg hat
          rw [← Ny125.out] at ho
          have n0_ := Am (blk_grown (g := gb101) (o := .cells #[.int .u8 a2_0, .int .u8 a2_1, .int .u8 a2_2] 29 (0, 0)) (by (with_reducible repeat (first | refine blk_drewN ?_ _ | refine blk_drew ?_ | refine blk_alloc ?_ _)); exact BK101.out) hg (R_ne HO120.out BK101.out (by decide)))
          have n1_ := Am (R_after (ok := (fun k_ => some k_ ≠ (.slice Ao27 t106.length co27 : Value).ownBlock ∧ some k_ ≠ (.slice Ao29 y115.length co29 : Value).ownBlock ∧ some k_ ≠ (v129 : Value).ownBlock)) (by (with_reducible repeat (first | apply R_alloc | apply R_drewN | apply R_drew)); exact R_mono HO105.out (fun _ hk => ⟨⟨hk.1.1.1, ⟨hk.1.1.2, hk.1.2⟩⟩, hk.2⟩)) hg hat)
          have n2_ := Am (R_after (ok := (fun k_ => some k_ ≠ (.slice Ao25 t103.length co25 : Value).ownBlock ∧ some k_ ≠ (.slice Ao29 y115.length co29 : Value).ownBlock ∧ some k_ ≠ (v129 : Value).ownBlock)) (by (with_reducible repeat (first | apply R_alloc | apply R_drewN | apply R_drew)); exact R_mono HO108.out (fun _ hk => ⟨⟨hk.1.1.1, ⟨hk.1.1.2, hk.1.2⟩⟩, hk.2⟩)) hg hat)
          have n3_ := Am (R_after (ok := (fun k_ => some k_ ≠ (.slice Ao25 t103.length co25 : Value).ownBlock ∧ some k_ ≠ (.slice Ao27 t106.length co27 : Value).ownBlock ∧ some k_ ≠ (v129 : Value).ownBlock)) (by (with_reducible repeat (first | apply R_alloc | apply R_drewN | apply R_drew)); exact R_mono HO117.out (fun _ hk => ⟨⟨hk.1.1.1, ⟨hk.1.1.2, hk.1.2⟩⟩, hk.2⟩)) hg hat)
          have n4_ := Am (R_after (ok := (fun k_ => some k_ ≠ (.slice Ao25 t103.length co25 : Value).ownBlock ∧ some k_ ≠ (.slice Ao27 t106.length co27 : Value).ownBlock ∧ some k_ ≠ (.slice Ao29 y115.length co29 : Value).ownBlock)) (by (with_reducible repeat (first | apply R_alloc | apply R_drewN | apply R_drew)); exact R_mono HO130.out (fun _ hk => ⟨⟨hk.1.1.1.2, ⟨hk.1.1.2, hk.1.2⟩⟩, hk.2⟩)) hg hat)
          have n5_ := Am (hb)
          have n6_ := Am ((show Kd.C k31 w36 Ao29 y121.length y121 from by rw [Ny121.out]; exact C_take (m := ((ji10) : Int).toNat) ((R_reads' (R_after (ok := (fun k_ => some k_ ≠ (.slice Ao25 t103.length co25 : Value).ownBlock ∧ some k_ ≠ (.slice Ao27 t106.length co27 : Value).ownBlock ∧ some k_ ≠ (v129 : Value).ownBlock)) (by (with_reducible repeat (first | apply R_alloc | apply R_drewN | apply R_drew)); exact R_mono HO117.out (fun _ hk => ⟨⟨hk.1.1.1, ⟨hk.1.1.2, hk.1.2⟩⟩, hk.2⟩)) hg hat)).2.2) KL31.out))
          have n7_ := Am (ho)
          clear BK101
          clear HO105
          clear HO108
          clear HO117
          clear HO130
          clear HB
          clear HR124
          clear HO120
          have BK101 := n0_
          have HO105 := n1_
          have HO108 := n2_
          have HO117 := n3_
          have HO130 := n4_
          have HB := n5_
          have HR124 := n6_
          have HO127 := n7_
          clear n0_ n1_ n2_ n3_ n4_ n5_ n6_ n7_
          clear ho hb hg hat
          refine hK.out _ _ ⟨(blk_cell BK101.out 0).trans rfl, (blk_cell BK101.out 1).trans rfl, (blk_cell BK101.out 2).trans rfl⟩ (fun hHeld => ?_)
          clear hK K
          refine norm_ (a' := ?_) ?_ ?_
          rotate_left
          ·show Act.put _ (some 46) _ = _
           simp only [Act.put, List.setIfInBounds_toArray, List.set_cons_zero, List.set_cons_succ, i64_w, i32_w]
           rfl
          exact norm_ (by simp only [putAll, Act.put, List.setIfInBounds_toArray, List.set_cons_zero, List.set_cons_succ]) (hCont (v119, v126, v129) _ ⟨hHeld, (by (with_reducible repeat (first | apply R_alloc | apply R_drewN | apply R_drew)); exact R_mono HO105.out (fun _ hk => ⟨hk.1.1, ⟨hk.1.2.1, ⟨hk.2, hk.1.2.2⟩⟩⟩)), (by (with_reducible repeat (first | apply R_alloc | apply R_drewN | apply R_drew)); exact R_mono HO108.out (fun _ hk => ⟨hk.1.1, ⟨hk.1.2.1, ⟨hk.2, hk.1.2.2⟩⟩⟩)), (by (with_reducible repeat (first | apply R_alloc | apply R_drewN | apply R_drew)); exact R_mono HO117.out (fun _ hk => ⟨hk.1.1, ⟨hk.1.2.1, ⟨hk.2, hk.1.2.2⟩⟩⟩)), (by (with_reducible repeat (first | apply R_alloc | apply R_drewN | apply R_drew)); exact HO127.out), (by (with_reducible repeat (first | apply R_alloc | apply R_drewN | apply R_drew)); exact R_mono HO130.out (fun _ hk => ⟨hk.1.1, ⟨hk.1.2.1, ⟨hk.1.2.2, hk.2⟩⟩⟩)), (by (with_reducible repeat (first | refine blk_drewN ?_ _ | refine blk_drew ?_ | refine blk_alloc ?_ _)); exact BK101.out), (by repeat (first | (with_reducible first | exact HB.out | apply below_alloc | apply pw_below_drewN | apply below_drew1 | refine below_set ?_ GE101.out) | exact HB.out))⟩)
        rintro ⟨v119, v126, v129⟩ w37 ⟨hS_, h0_, h1_, h2_, h3_, h4_, h5_, h6_⟩
        have n0_ : Aside0 (Kd.R k31 31 w37 w.heap.size (fun k_ => some k_ ≠ (.slice Ao27 t106.length co27 : Value).ownBlock ∧ some k_ ≠ (.slice Ao29 y115.length co29 : Value).ownBlock ∧ some k_ ≠ (v126 : Value).ownBlock ∧ some k_ ≠ (v129 : Value).ownBlock) (.slice Ao25 t103.length co25) t103) := ⟨h0_⟩
        have n1_ : Aside0 (Kd.R k31 31 w37 w.heap.size (fun k_ => some k_ ≠ (.slice Ao25 t103.length co25 : Value).ownBlock ∧ some k_ ≠ (.slice Ao29 y115.length co29 : Value).ownBlock ∧ some k_ ≠ (v126 : Value).ownBlock ∧ some k_ ≠ (v129 : Value).ownBlock) (.slice Ao27 t106.length co27) t106) := ⟨h1_⟩
        have n2_ : Aside0 (Kd.R k31 31 w37 w.heap.size (fun k_ => some k_ ≠ (.slice Ao25 t103.length co25 : Value).ownBlock ∧ some k_ ≠ (.slice Ao27 t106.length co27 : Value).ownBlock ∧ some k_ ≠ (v126 : Value).ownBlock ∧ some k_ ≠ (v129 : Value).ownBlock) (.slice Ao29 y115.length co29) y115) := ⟨h2_⟩
        have n3_ : Aside0 (Kd.R k31 31 w37 w.heap.size (fun k_ => some k_ ≠ (.slice Ao25 t103.length co25 : Value).ownBlock ∧ some k_ ≠ (.slice Ao27 t106.length co27 : Value).ownBlock ∧ some k_ ≠ (.slice Ao29 y115.length co29 : Value).ownBlock ∧ some k_ ≠ (v129 : Value).ownBlock) v126 y125) := ⟨h3_⟩
        have n4_ : Aside0 (Kd.R k31 31 w37 w.heap.size (fun k_ => some k_ ≠ (.slice Ao25 t103.length co25 : Value).ownBlock ∧ some k_ ≠ (.slice Ao27 t106.length co27 : Value).ownBlock ∧ some k_ ≠ (.slice Ao29 y115.length co29 : Value).ownBlock ∧ some k_ ≠ (v126 : Value).ownBlock) v129 y128) := ⟨h4_⟩
        have n5_ : Aside0 (w37.heap[gb101]? = some (.cells #[.int .u8 a2_0, .int .u8 a2_1, .int .u8 a2_2] 29 (0, 0))) := ⟨h5_⟩
        have n6_ : Aside0 (Below w.heap.size w w37) := ⟨h6_⟩
        clear HO105
        clear HO108
        clear HO117
        clear BK101
        clear HB
        clear h0_ h1_ h2_ h3_ h4_ h5_ h6_
        have HO105 := n0_
        have HO108 := n1_
        have HO117 := n2_
        have HO127 := n3_
        have HO130 := n4_
        have BK101 := n5_
        have HB := n6_
        clear n0_ n1_ n2_ n3_ n4_ n5_ n6_
        have hHeld : w37.cell? ⟨gb101, 0, none⟩ = some (.int .u8 a2_0) ∧ w37.cell? ⟨gb101, 1, none⟩ = some (.int .u8 a2_1) ∧ w37.cell? ⟨gb101, 2, none⟩ = some (.int .u8 a2_2) := hS_
        obtain ⟨Ao39, co39, eo39⟩ := R_slice HO130.out
        (first | subst eo39 | (injection eo39 with f1_ f2_ f3_; have f4_ := f1_.symm; have f5_ := f3_.symm; clear f1_ f2_ f3_; subst f4_; subst f5_))
        refine norm_ (a' := ?_) ?_ ?_
        rotate_left
        ·simp only [putAll, Act.put, List.setIfInBounds_toArray, List.set_cons_zero, List.set_cons_succ]
         rfl
        refine one_ (i := 12) (N := some 54) #[true, true, true, true, true, true, true, true, true, true, true, true, true, false] rfl rfl (one_of HT_.out (by kernel_rfl)) (by decide) (fun K hK => ?_)
        refine R_append_rows_step k31 (w0 := w) w.heap.size (by rfl) (.tmp 46) (.tmp 53) 22 31 (.agg #[(.int .i64 0), (.int .i64 0), (.string ⟨#[]⟩)]) 32 rfl Try.underlying22 info31 rfl (by decide) (by omega) v126 y125 y128 _ _ _ (fun k_ => some k_ ≠ (.slice Ao25 t103.length co25 : Value).ownBlock ∧ some k_ ≠ (.slice Ao27 t106.length co27 : Value).ownBlock ∧ some k_ ≠ (.slice Ao29 y115.length co29 : Value).ownBlock ∧ some k_ ≠ (.slice Ao39 y128.length co39 : Value).ownBlock) (fun _ => False) rfl rfl ?aO ?aR (fun _ _ h => h) (fun _ h => h.elim) ?aF ?aB ?aS ?aL ?_
        (case aR => repeat (first | exact (R_reads' HO130.out).2.2 | (with_reducible refine C_alloc ?_ _) | (with_reducible refine C_drewN ?_ _) | (with_reducible refine C_drew ?_)))
        (case aB => exact (by repeat (first | (with_reducible first | exact HB.out | apply below_alloc | apply pw_below_drewN | apply below_drew1 | refine below_set ?_ GE101.out) | exact HB.out)))
        (case aF => exact (fun k_ hk => ⟨Kd.fresh' (R_lt (by (with_reducible repeat (first | apply R_alloc | apply R_drewN | apply R_drew)); exact HO105.out)) k_ hk, Kd.fresh' (R_lt (by (with_reducible repeat (first | apply R_alloc | apply R_drewN | apply R_drew)); exact HO108.out)) k_ hk, Kd.fresh' (R_lt (by (with_reducible repeat (first | apply R_alloc | apply R_drewN | apply R_drew)); exact HO117.out)) k_ hk, Kd.fresh' (R_lt (by (with_reducible repeat (first | apply R_alloc | apply R_drewN | apply R_drew)); exact HO130.out)) k_ hk⟩))
        (case aO => exact (by (with_reducible repeat (first | apply R_alloc | apply R_drewN | apply R_drew)); exact HO127.out))
        (case aS => exact (below_size (by repeat (first | (with_reducible first | exact HB.out | apply below_alloc | apply pw_below_drewN | apply below_drew1 | refine below_set ?_ GE101.out) | exact HB.out))))
        (case aL => have := LMc14.out; omega)
        intro v132 w38 ho hb hg hat
        rw [← Ny131.out] at ho
        have n0_ := Am (blk_grown (g := gb101) (o := .cells #[.int .u8 a2_0, .int .u8 a2_1, .int .u8 a2_2] 29 (0, 0)) (by (with_reducible repeat (first | refine blk_drewN ?_ _ | refine blk_drew ?_ | refine blk_alloc ?_ _)); exact BK101.out) hg (R_ne HO127.out BK101.out (by decide)))
        have n1_ := Am (R_after (ok := (fun k_ => some k_ ≠ (.slice Ao27 t106.length co27 : Value).ownBlock ∧ some k_ ≠ (.slice Ao29 y115.length co29 : Value).ownBlock ∧ some k_ ≠ (.slice Ao39 y128.length co39 : Value).ownBlock)) (by (with_reducible repeat (first | apply R_alloc | apply R_drewN | apply R_drew)); exact R_mono HO105.out (fun _ hk => ⟨⟨hk.1, ⟨hk.2.1, hk.2.2.2⟩⟩, hk.2.2.1⟩)) hg hat)
        have n2_ := Am (R_after (ok := (fun k_ => some k_ ≠ (.slice Ao25 t103.length co25 : Value).ownBlock ∧ some k_ ≠ (.slice Ao29 y115.length co29 : Value).ownBlock ∧ some k_ ≠ (.slice Ao39 y128.length co39 : Value).ownBlock)) (by (with_reducible repeat (first | apply R_alloc | apply R_drewN | apply R_drew)); exact R_mono HO108.out (fun _ hk => ⟨⟨hk.1, ⟨hk.2.1, hk.2.2.2⟩⟩, hk.2.2.1⟩)) hg hat)
        have n3_ := Am (R_after (ok := (fun k_ => some k_ ≠ (.slice Ao25 t103.length co25 : Value).ownBlock ∧ some k_ ≠ (.slice Ao27 t106.length co27 : Value).ownBlock ∧ some k_ ≠ (.slice Ao39 y128.length co39 : Value).ownBlock)) (by (with_reducible repeat (first | apply R_alloc | apply R_drewN | apply R_drew)); exact R_mono HO117.out (fun _ hk => ⟨⟨hk.1, ⟨hk.2.1, hk.2.2.2⟩⟩, hk.2.2.1⟩)) hg hat)
        have n4_ := Am (R_after (ok := (fun k_ => some k_ ≠ (.slice Ao25 t103.length co25 : Value).ownBlock ∧ some k_ ≠ (.slice Ao27 t106.length co27 : Value).ownBlock ∧ some k_ ≠ (.slice Ao29 y115.length co29 : Value).ownBlock)) (by (with_reducible repeat (first | apply R_alloc | apply R_drewN | apply R_drew)); exact R_mono HO130.out (fun _ hk => ⟨⟨hk.1, ⟨hk.2.1, hk.2.2.1⟩⟩, hk.2.2.2⟩)) hg hat)
        have n5_ := Am (hb)
        have n6_ := Am (ho)
        clear BK101
        clear HO105
        clear HO108
        clear HO117
        clear HO130
        clear HB
        clear HO127
        have BK101 := n0_
        have HO105 := n1_
        have HO108 := n2_
        have HO117 := n3_
        have HO130 := n4_
        have HB := n5_
        have HO133 := n6_
        clear n0_ n1_ n2_ n3_ n4_ n5_ n6_
        clear ho hb hg hat
        refine hK.out _ _ ⟨(blk_cell BK101.out 0).trans rfl, (blk_cell BK101.out 1).trans rfl, (blk_cell BK101.out 2).trans rfl⟩ (fun hHeld => ?_)
        clear hK K
        refine norm_ (a' := ?_) ?_ ?_
        rotate_left
        ·show Act.put _ (some 54) _ = _
         simp only [Act.put, List.setIfInBounds_toArray, List.set_cons_zero, List.set_cons_succ, i64_w, i32_w]
         rfl
        refine pure_ (i := 13) (N := some 12) (v := ?_) (a' := ?_) #[true, true, true, true, true, true, true, true, true, true, true, true, true, true] rfl rfl (any_of HT_.out (by kernel_rfl)) (fun _ _ _ h => h) (Or.inl ⟨by rfl, ?_⟩) ?_ ?_
        rotate_left
        ·intro w'
         go_simp
         with_reducible rfl
        rotate_left
        ·simp only [Act.put, List.setIfInBounds_toArray, List.set_cons_zero, List.set_cons_succ, i64_w, i32_w]
         rfl
        refine done_ (done_of HT_.out (by kernel_rfl)) ?_
        go_upto_if 58 with (fail)
        go_cut [12] (fun v12 wc => ∃ (kq : Nat) (x12_14 : List (S31)), Aside0 (epitomelaw05_NormalParts.j0 kq t102 t103 t106 y115 x12_14 = some r) ∧ Aside0 (kq ≤ k) ∧ Aside0 (Kd.R k31 31 wc w.heap.size (fun k_ => some k_ ≠ ((.slice Ao27 t106.length co27) : Value).ownBlock ∧ some k_ ≠ ((.slice Ao29 y115.length co29) : Value).ownBlock ∧ some k_ ≠ (v12 : Value).ownBlock) (.slice Ao25 t103.length co25) t103) ∧ Aside0 (Kd.R k31 31 wc w.heap.size (fun k_ => some k_ ≠ ((.slice Ao25 t103.length co25) : Value).ownBlock ∧ some k_ ≠ ((.slice Ao29 y115.length co29) : Value).ownBlock ∧ some k_ ≠ (v12 : Value).ownBlock) (.slice Ao27 t106.length co27) t106) ∧ Aside0 (Kd.R k31 31 wc w.heap.size (fun k_ => some k_ ≠ ((.slice Ao25 t103.length co25) : Value).ownBlock ∧ some k_ ≠ ((.slice Ao27 t106.length co27) : Value).ownBlock ∧ some k_ ≠ (v12 : Value).ownBlock) (.slice Ao29 y115.length co29) y115) ∧ Aside0 (Kd.R k31 31 wc w.heap.size (fun k_ => some k_ ≠ ((.slice Ao25 t103.length co25) : Value).ownBlock ∧ some k_ ≠ ((.slice Ao27 t106.length co27) : Value).ownBlock ∧ some k_ ≠ ((.slice Ao29 y115.length co29) : Value).ownBlock) v12 x12_14) ∧ Aside0 (wc.heap[gb101]? = some (.cells #[.int .u8 a2_0, .int .u8 a2_1, .int .u8 a2_2] 29 (0, 0))) ∧ Aside0 (Below w.heap.size w wc))
        case first =>
         have H := HC15.out
         clear HC15
         by_cases c40 : (ji10) < (y115.length : Int)
         ·rw [if_pos c40] at H
          have c40b0 : decide ((ji10) < (y115.length : Int)) = true := decide_eq_true c40
          clear c40
          (first | rw [c40b0] | (simp only [i64_w, i32_w]; rw [c40b0]) | skip)
          by_cases c41 : ((rd_T31 y115 (ji10)).f0) = 2
          ·rw [if_pos c41] at H
           have c41b0 : (((rd_T31 y115 (ji10)).f0) == 2) = true := beq_iff_eq.mpr c41
           have c41b1 : (((rd_T31 y115 (ji10)).f0) != 2) = false := bne_eq_false_iff_eq.mpr c41
           clear c41
           obtain ⟨y137, hy137⟩ : ∃ y_ : List (S31), y_ = (([(⟨(rd_T31 y115 (ji10)).f0, wrap64 (Int.tdiv ((rd_T31 y115 (ji10)).f1) 2), (⟨#[]⟩ : ByteArray)⟩ : S31), (⟨(rd_T31 y115 (ji10)).f0, wrap64 (((rd_T31 y115 (ji10)).f1) - (wrap64 (Int.tdiv ((rd_T31 y115 (ji10)).f1) 2))), (rd_T31 y115 (ji10)).f2⟩ : S31)] : List (S31))) := ⟨_, rfl⟩
           replace H : (if y131.length + y137.length < 4398046511104 then ((some (y131 ++ y137 : List (S31))).bind fun y140 => (if 0 ≤ (wrap64 ((ji10) + 1)) then (if (wrap64 ((ji10) + 1)) ≤ (y115.length : Int) then ((some (y115.drop ((wrap64 ((ji10) + 1)) : Int).toNat : List (S31))).bind fun y143 => (if y140.length + y143.length < 4398046511104 then (epitomelaw05_NormalParts.j0 k t102 t103 t106 y115 (y140 ++ y143)) else (none))) else (none)) else (none))) else (none)) = some r := by first | (rw [hy137]; with_reducible exact H) | (have H2_ := (Option.bind_some _ _).symm.trans H; rw [hy137]; with_reducible exact H2_) | (have H2_ := (Option.bind_some _ _).symm.trans H; with_reducible exact H2_) | with_reducible exact H | (rw [hy137]; exact H) | exact H
           have Ny137 := Am hy137
           clear hy137
           by_cases c42 : y131.length + y137.length < 4398046511104
           ·rw [if_pos c42] at H
            have LMc42 := Am c42
            clear c42
            obtain ⟨y140, hy140⟩ : ∃ y_ : List (S31), y_ = (y131 ++ y137) := ⟨_, rfl⟩
            replace H : (if 0 ≤ (wrap64 ((ji10) + 1)) then (if (wrap64 ((ji10) + 1)) ≤ (y115.length : Int) then ((some (y115.drop ((wrap64 ((ji10) + 1)) : Int).toNat : List (S31))).bind fun y143 => (if y140.length + y143.length < 4398046511104 then (epitomelaw05_NormalParts.j0 k t102 t103 t106 y115 (y140 ++ y143)) else (none))) else (none)) else (none)) = some r := by first | (rw [hy140]; with_reducible exact H) | (have H2_ := (Option.bind_some _ _).symm.trans H; rw [hy140]; with_reducible exact H2_) | (have H2_ := (Option.bind_some _ _).symm.trans H; with_reducible exact H2_) | with_reducible exact H | (rw [hy140]; exact H) | exact H
            have Ny140 := Am hy140
            clear hy140
            obtain ⟨ji43, hji43⟩ : ∃ j_ : Int, (wrap64 ((ji10) + 1)) = j_ := ⟨_, rfl⟩
            replace H : (if 0 ≤ (ji43) then (if (ji43) ≤ (y115.length : Int) then ((some (y115.drop ((ji43) : Int).toNat : List (S31))).bind fun y143 => (if y140.length + y143.length < 4398046511104 then (epitomelaw05_NormalParts.j0 k t102 t103 t106 y115 (y140 ++ y143)) else (none))) else (none)) else (none)) = some r := by first | (rw [hji43] at H; exact H) | (simp only [hji43] at H ⊢; exact H)
            have hji43w : (IntKind.i64.wrap ((ji10) + 1)) = ji43 := (i64_w _).trans hji43
            by_cases c44 : 0 ≤ (ji43)
            ·rw [if_pos c44] at H
             have c44b0 := eq_true c44
             have c44b1 : decide (0 ≤ (ji43)) = true := decide_eq_true c44
             clear c44
             by_cases c45 : (ji43) ≤ (y115.length : Int)
             ·rw [if_pos c45] at H
              have c45b0 := eq_true c45
              have c45b1 : decide ((ji43) ≤ (y115.length : Int)) = true := decide_eq_true c45
              clear c45
              obtain ⟨y143, hy143⟩ : ∃ y_ : List (S31), y_ = (y115.drop ((ji43) : Int).toNat) := ⟨_, rfl⟩
              replace H : (if y140.length + y143.length < 4398046511104 then (epitomelaw05_NormalParts.j0 k t102 t103 t106 y115 (y140 ++ y143)) else (none)) = some r := by first | (rw [hy143]; with_reducible exact H) | (have H2_ := (Option.bind_some _ _).symm.trans H; rw [hy143]; with_reducible exact H2_) | (have H2_ := (Option.bind_some _ _).symm.trans H; with_reducible exact H2_) | with_reducible exact H | (rw [hy143]; exact H) | exact H
              have Ny143 := Am hy143
              clear hy143
              by_cases c46 : y140.length + y143.length < 4398046511104
              ·rw [if_pos c46] at H
               have LMc46 := Am c46
               clear c46
               obtain ⟨y147, hy147⟩ : ∃ y_ : List (S31), y_ = (y140 ++ y143) := ⟨_, rfl⟩
               replace H : (epitomelaw05_NormalParts.j0 k t102 t103 t106 y115 y147) = some r := by first | (rw [hy147]; with_reducible exact H) | (have H2_ := (Option.bind_some _ _).symm.trans H; rw [hy147]; with_reducible exact H2_) | (have H2_ := (Option.bind_some _ _).symm.trans H; with_reducible exact H2_) | with_reducible exact H | (rw [hy147]; exact H) | exact H
               have Ny147 := Am hy147
               clear hy147
               have H' := Am H
               clear H
               have p134 : 0 ≤ ((ji10) : Int) := of_decide_eq_true (by first | (with_reducible assumption) | assumption)
               have q134 : (ji10) < (y115.length : Int) := of_decide_eq_true (by first | (with_reducible assumption) | assumption)
               obtain ⟨ad134, e134, hx134_0, hx134_1, hx134_2⟩ := at_T31 (R_reads' HO117.out).2.2 (ji10) p134 q134
               cases e134
               replace p134 := eq_true p134
               replace q134 := eq_true q134
               try go_wp2_with (first | ((with_reducible refine gate_dst (N := 13) rfl ?_); (try (refine gate_guard (by rfl) ?_; dsimp only)); refine box_event ?hg (N := 13) ?hd (cs := #[.int .i64 0, .int .i64 0, .string (⟨#[]⟩ : ByteArray)]) (t := 31) ?hr ?_; (case hd => rfl); (case hg => rfl); (case hr => first | (go_simp; done) | (go_simp; rfl)); intro gb135 hg w47 hbox hb; have n0_ := Am (R_below (R_elderB (by (with_reducible repeat (first | apply R_alloc | apply R_drewN | apply R_drew)); exact HO105.out) gb135 (Nat.le_of_eq hg.symm)) hb); have n1_ := Am (R_below (R_elderB (by (with_reducible repeat (first | apply R_alloc | apply R_drewN | apply R_drew)); exact HO108.out) gb135 (Nat.le_of_eq hg.symm)) hb); have n2_ := Am (R_below (R_elderB (by (with_reducible repeat (first | apply R_alloc | apply R_drewN | apply R_drew)); exact HO117.out) gb135 (Nat.le_of_eq hg.symm)) hb); have n3_ := Am (R_below (R_elderB (by (with_reducible repeat (first | apply R_alloc | apply R_drewN | apply R_drew)); exact HO130.out) gb135 (Nat.le_of_eq hg.symm)) hb); have n4_ := Am (R_below (R_elderB (by (with_reducible repeat (first | apply R_alloc | apply R_drewN | apply R_drew)); exact HO133.out) gb135 (Nat.le_of_eq hg.symm)) hb); have n5_ := Am (blk_below (g := gb101) (o := .cells #[.int .u8 a2_0, .int .u8 a2_1, .int .u8 a2_2] 29 (0, 0)) (by (with_reducible repeat (first | refine blk_drewN ?_ _ | refine blk_drew ?_ | refine blk_alloc ?_ _)); exact BK101.out) hb); have n6_ := Am (below_step (by repeat (first | (with_reducible first | exact HB.out | apply below_alloc | apply pw_below_drewN | apply below_drew1 | refine below_set ?_ GE101.out) | exact HB.out)) hb); have n7_ := Am (hbox); have n8_ := Am ((by rw [hg]; exact (below_size (by repeat (first | (with_reducible first | exact HB.out | apply below_alloc | apply pw_below_drewN | apply below_drew1 | refine below_set ?_ GE101.out) | exact HB.out))) : w.heap.size ≤ gb135)); have n9_ := Am ((by rw [hg]; exact (below_size (by repeat (first | (with_reducible first | exact HB.out | apply below_alloc | apply pw_below_drewN | apply below_drew1 | refine below_set ?_ GE101.out) | exact HB.out))) : w.heap.size ≤ gb135)); have n10_ := Am ((by rw [hg]; exact Nat.ne_of_lt (blk_lt (g := gb101) (o := .cells #[.int .u8 a2_0, .int .u8 a2_1, .int .u8 a2_2] 29 (0, 0)) (by (with_reducible repeat (first | refine blk_drewN ?_ _ | refine blk_drew ?_ | refine blk_alloc ?_ _)); exact BK101.out)) : gb101 ≠ gb135)); have n11_ := Am ((by rw [hg]; exact Nat.ne_of_gt (blk_lt (g := gb101) (o := .cells #[.int .u8 a2_0, .int .u8 a2_1, .int .u8 a2_2] 29 (0, 0)) (by (with_reducible repeat (first | refine blk_drewN ?_ _ | refine blk_drew ?_ | refine blk_alloc ?_ _)); exact BK101.out)) : gb135 ≠ gb101)); clear HO105; clear HO108; clear HO117; clear HO130; clear HO133; clear BK101; clear HB; have HO105 := n0_; have HO108 := n1_; have HO117 := n2_; have HO130 := n3_; have HO133 := n4_; have BK101 := n5_; have HB := n6_; have BK135 := n7_; have GW135 := n8_; have GE135 := n9_; have NB101_135 := n10_; have NB135_101 := n11_; clear n0_ n1_ n2_ n3_ n4_ n5_ n6_ n7_ n8_ n9_ n10_ n11_; clear hb hbox hg; have hnb48 := NB135_101.out; have hnc48 := NB101_135.out; have hcz49_0 : w47.cell? ⟨gb135, 0, none⟩ = some (.int .i64 0) := (blk_cell BK135.out 0).trans rfl; have hcz49_1 : w47.cell? ⟨gb135, 1, none⟩ = some (.int .i64 0) := (blk_cell BK135.out 1).trans rfl; have hcz49_2 : w47.cell? ⟨gb135, 2, none⟩ = some (.string (⟨#[]⟩ : ByteArray)) := (blk_cell BK135.out 2).trans rfl; have hfz49_0 := blk_frozen BK135.out 0; have hfz49_1 := blk_frozen BK135.out 1; have hfz49_2 := blk_frozen BK135.out 2) | ((with_reducible refine gate_dst (N := 14) rfl ?_); (try (refine gate_guard (by rfl) ?_; dsimp only)); refine box_event ?hg (N := 14) ?hd (cs := #[.int .i64 0, .int .i64 0, .string (⟨#[]⟩ : ByteArray)]) (t := 31) ?hr ?_; (case hd => rfl); (case hg => rfl); (case hr => first | (go_simp; done) | (go_simp; rfl)); intro gb136 hg w50 hbox hb; have n0_ := Am (R_below (R_elderB (by (with_reducible repeat (first | apply R_alloc | apply R_drewN | apply R_drew)); exact (R_mono (R_far (p := ⟨gb135, 2, none⟩) (R_far (p := ⟨gb135, 1, none⟩) (R_far (p := ⟨gb135, 0, none⟩) (R_mono HO105.out (fun k_ hk => (⟨hk, hk.2⟩ : _ ∧ k_ ≠ gb135))) (fun _ hk => hk.2) (.int .i64 ((rd_T31 y115 (ji10)).f0))) (fun _ hk => hk.2) (.int .i64 ((rd_T31 y115 (ji10)).f1))) (fun _ hk => hk.2) (.string ((rd_T31 y115 (ji10)).f2))) (fun _ h_ => h_.1))) gb136 (Nat.le_of_eq hg.symm)) hb); have n1_ := Am (R_below (R_elderB (by (with_reducible repeat (first | apply R_alloc | apply R_drewN | apply R_drew)); exact (R_mono (R_far (p := ⟨gb135, 2, none⟩) (R_far (p := ⟨gb135, 1, none⟩) (R_far (p := ⟨gb135, 0, none⟩) (R_mono HO108.out (fun k_ hk => (⟨hk, hk.2⟩ : _ ∧ k_ ≠ gb135))) (fun _ hk => hk.2) (.int .i64 ((rd_T31 y115 (ji10)).f0))) (fun _ hk => hk.2) (.int .i64 ((rd_T31 y115 (ji10)).f1))) (fun _ hk => hk.2) (.string ((rd_T31 y115 (ji10)).f2))) (fun _ h_ => h_.1))) gb136 (Nat.le_of_eq hg.symm)) hb); have n2_ := Am (R_below (R_elderB (by (with_reducible repeat (first | apply R_alloc | apply R_drewN | apply R_drew)); exact (R_mono (R_far (p := ⟨gb135, 2, none⟩) (R_far (p := ⟨gb135, 1, none⟩) (R_far (p := ⟨gb135, 0, none⟩) (R_mono HO117.out (fun k_ hk => (⟨hk, hk.2⟩ : _ ∧ k_ ≠ gb135))) (fun _ hk => hk.2) (.int .i64 ((rd_T31 y115 (ji10)).f0))) (fun _ hk => hk.2) (.int .i64 ((rd_T31 y115 (ji10)).f1))) (fun _ hk => hk.2) (.string ((rd_T31 y115 (ji10)).f2))) (fun _ h_ => h_.1))) gb136 (Nat.le_of_eq hg.symm)) hb); have n3_ := Am (R_below (R_elderB (by (with_reducible repeat (first | apply R_alloc | apply R_drewN | apply R_drew)); exact (R_mono (R_far (p := ⟨gb135, 2, none⟩) (R_far (p := ⟨gb135, 1, none⟩) (R_far (p := ⟨gb135, 0, none⟩) (R_mono HO130.out (fun k_ hk => (⟨hk, hk.2⟩ : _ ∧ k_ ≠ gb135))) (fun _ hk => hk.2) (.int .i64 ((rd_T31 y115 (ji10)).f0))) (fun _ hk => hk.2) (.int .i64 ((rd_T31 y115 (ji10)).f1))) (fun _ hk => hk.2) (.string ((rd_T31 y115 (ji10)).f2))) (fun _ h_ => h_.1))) gb136 (Nat.le_of_eq hg.symm)) hb); have n4_ := Am (R_below (R_elderB (by (with_reducible repeat (first | apply R_alloc | apply R_drewN | apply R_drew)); exact (R_mono (R_far (p := ⟨gb135, 2, none⟩) (R_far (p := ⟨gb135, 1, none⟩) (R_far (p := ⟨gb135, 0, none⟩) (R_mono HO133.out (fun k_ hk => (⟨hk, hk.2⟩ : _ ∧ k_ ≠ gb135))) (fun _ hk => hk.2) (.int .i64 ((rd_T31 y115 (ji10)).f0))) (fun _ hk => hk.2) (.int .i64 ((rd_T31 y115 (ji10)).f1))) (fun _ hk => hk.2) (.string ((rd_T31 y115 (ji10)).f2))) (fun _ h_ => h_.1))) gb136 (Nat.le_of_eq hg.symm)) hb); have n5_ := Am (blk_below (g := gb101) (o := .cells #[.int .u8 a2_0, .int .u8 a2_1, .int .u8 a2_2] 29 (0, 0)) (by (with_reducible repeat (first | refine blk_drewN ?_ _ | refine blk_drew ?_ | refine blk_alloc ?_ _)); refine blk_far ?_ NB101_135.out _; (with_reducible repeat (first | refine blk_drewN ?_ _ | refine blk_drew ?_ | refine blk_alloc ?_ _)); refine blk_far ?_ NB101_135.out _; (with_reducible repeat (first | refine blk_drewN ?_ _ | refine blk_drew ?_ | refine blk_alloc ?_ _)); refine blk_far ?_ NB101_135.out _; (with_reducible repeat (first | refine blk_drewN ?_ _ | refine blk_drew ?_ | refine blk_alloc ?_ _)); exact BK101.out) hb); have n6_ := Am (blk_below (g := gb135) (o := .cells #[.int .i64 ((rd_T31 y115 (ji10)).f0), .int .i64 ((rd_T31 y115 (ji10)).f1), .string ((rd_T31 y115 (ji10)).f2)] 31 (0, 0)) (by (with_reducible repeat (first | refine blk_drewN ?_ _ | refine blk_drew ?_ | refine blk_alloc ?_ _)); refine blk_put (cs := #[.int .i64 ((rd_T31 y115 (ji10)).f0), .int .i64 ((rd_T31 y115 (ji10)).f1), .string (⟨#[]⟩ : ByteArray)]) ?_ 2 _ rfl; (with_reducible repeat (first | refine blk_drewN ?_ _ | refine blk_drew ?_ | refine blk_alloc ?_ _)); refine blk_put (cs := #[.int .i64 ((rd_T31 y115 (ji10)).f0), .int .i64 0, .string (⟨#[]⟩ : ByteArray)]) ?_ 1 _ rfl; (with_reducible repeat (first | refine blk_drewN ?_ _ | refine blk_drew ?_ | refine blk_alloc ?_ _)); refine blk_put (cs := #[.int .i64 0, .int .i64 0, .string (⟨#[]⟩ : ByteArray)]) ?_ 0 _ rfl; (with_reducible repeat (first | refine blk_drewN ?_ _ | refine blk_drew ?_ | refine blk_alloc ?_ _)); exact BK135.out) hb); have n7_ := Am (below_step (by repeat (first | (with_reducible first | exact HB.out | apply below_alloc | apply pw_below_drewN | apply below_drew1 | refine below_set ?_ GE101.out | refine below_set ?_ GE135.out) | exact HB.out)) hb); have n8_ := Am (hbox); have n9_ := Am ((by rw [hg]; exact (below_size (by repeat (first | (with_reducible first | exact HB.out | apply below_alloc | apply pw_below_drewN | apply below_drew1 | refine below_set ?_ GE101.out | refine below_set ?_ GE135.out) | exact HB.out))) : w.heap.size ≤ gb136)); have n10_ := Am ((by rw [hg]; exact (below_size (by repeat (first | (with_reducible first | exact HB.out | apply below_alloc | apply pw_below_drewN | apply below_drew1 | refine below_set ?_ GE101.out | refine below_set ?_ GE135.out) | exact HB.out))) : w.heap.size ≤ gb136)); have n11_ := Am ((by rw [hg]; exact Nat.ne_of_lt (blk_lt (g := gb101) (o := .cells #[.int .u8 a2_0, .int .u8 a2_1, .int .u8 a2_2] 29 (0, 0)) (by (with_reducible repeat (first | refine blk_drewN ?_ _ | refine blk_drew ?_ | refine blk_alloc ?_ _)); refine blk_far ?_ NB101_135.out _; (with_reducible repeat (first | refine blk_drewN ?_ _ | refine blk_drew ?_ | refine blk_alloc ?_ _)); refine blk_far ?_ NB101_135.out _; (with_reducible repeat (first | refine blk_drewN ?_ _ | refine blk_drew ?_ | refine blk_alloc ?_ _)); refine blk_far ?_ NB101_135.out _; (with_reducible repeat (first | refine blk_drewN ?_ _ | refine blk_drew ?_ | refine blk_alloc ?_ _)); exact BK101.out)) : gb101 ≠ gb136)); have n12_ := Am ((by rw [hg]; exact Nat.ne_of_gt (blk_lt (g := gb101) (o := .cells #[.int .u8 a2_0, .int .u8 a2_1, .int .u8 a2_2] 29 (0, 0)) (by (with_reducible repeat (first | refine blk_drewN ?_ _ | refine blk_drew ?_ | refine blk_alloc ?_ _)); refine blk_far ?_ NB101_135.out _; (with_reducible repeat (first | refine blk_drewN ?_ _ | refine blk_drew ?_ | refine blk_alloc ?_ _)); refine blk_far ?_ NB101_135.out _; (with_reducible repeat (first | refine blk_drewN ?_ _ | refine blk_drew ?_ | refine blk_alloc ?_ _)); refine blk_far ?_ NB101_135.out _; (with_reducible repeat (first | refine blk_drewN ?_ _ | refine blk_drew ?_ | refine blk_alloc ?_ _)); exact BK101.out)) : gb136 ≠ gb101)); have n13_ := Am ((by rw [hg]; exact Nat.ne_of_lt (blk_lt (g := gb135) (o := .cells #[.int .i64 ((rd_T31 y115 (ji10)).f0), .int .i64 ((rd_T31 y115 (ji10)).f1), .string ((rd_T31 y115 (ji10)).f2)] 31 (0, 0)) (by (with_reducible repeat (first | refine blk_drewN ?_ _ | refine blk_drew ?_ | refine blk_alloc ?_ _)); refine blk_put (cs := #[.int .i64 ((rd_T31 y115 (ji10)).f0), .int .i64 ((rd_T31 y115 (ji10)).f1), .string (⟨#[]⟩ : ByteArray)]) ?_ 2 _ rfl; (with_reducible repeat (first | refine blk_drewN ?_ _ | refine blk_drew ?_ | refine blk_alloc ?_ _)); refine blk_put (cs := #[.int .i64 ((rd_T31 y115 (ji10)).f0), .int .i64 0, .string (⟨#[]⟩ : ByteArray)]) ?_ 1 _ rfl; (with_reducible repeat (first | refine blk_drewN ?_ _ | refine blk_drew ?_ | refine blk_alloc ?_ _)); refine blk_put (cs := #[.int .i64 0, .int .i64 0, .string (⟨#[]⟩ : ByteArray)]) ?_ 0 _ rfl; (with_reducible repeat (first | refine blk_drewN ?_ _ | refine blk_drew ?_ | refine blk_alloc ?_ _)); exact BK135.out)) : gb135 ≠ gb136)); have n14_ := Am ((by rw [hg]; exact Nat.ne_of_gt (blk_lt (g := gb135) (o := .cells #[.int .i64 ((rd_T31 y115 (ji10)).f0), .int .i64 ((rd_T31 y115 (ji10)).f1), .string ((rd_T31 y115 (ji10)).f2)] 31 (0, 0)) (by (with_reducible repeat (first | refine blk_drewN ?_ _ | refine blk_drew ?_ | refine blk_alloc ?_ _)); refine blk_put (cs := #[.int .i64 ((rd_T31 y115 (ji10)).f0), .int .i64 ((rd_T31 y115 (ji10)).f1), .string (⟨#[]⟩ : ByteArray)]) ?_ 2 _ rfl; (with_reducible repeat (first | refine blk_drewN ?_ _ | refine blk_drew ?_ | refine blk_alloc ?_ _)); refine blk_put (cs := #[.int .i64 ((rd_T31 y115 (ji10)).f0), .int .i64 0, .string (⟨#[]⟩ : ByteArray)]) ?_ 1 _ rfl; (with_reducible repeat (first | refine blk_drewN ?_ _ | refine blk_drew ?_ | refine blk_alloc ?_ _)); refine blk_put (cs := #[.int .i64 0, .int .i64 0, .string (⟨#[]⟩ : ByteArray)]) ?_ 0 _ rfl; (with_reducible repeat (first | refine blk_drewN ?_ _ | refine blk_drew ?_ | refine blk_alloc ?_ _)); exact BK135.out)) : gb136 ≠ gb135)); clear HO105; clear HO108; clear HO117; clear HO130; clear HO133; clear BK101; clear BK135; clear HB; have HO105 := n0_; have HO108 := n1_; have HO117 := n2_; have HO130 := n3_; have HO133 := n4_; have BK101 := n5_; have BK135 := n6_; have HB := n7_; have BK136 := n8_; have GW136 := n9_; have GE136 := n10_; have NB101_136 := n11_; have NB136_101 := n12_; have NB135_136 := n13_; have NB136_135 := n14_; clear n0_ n1_ n2_ n3_ n4_ n5_ n6_ n7_ n8_ n9_ n10_ n11_ n12_ n13_ n14_; clear hb hbox hg; have hnb51 := NB136_101.out; have hnc51 := NB101_136.out; have hnb52 := NB136_135.out; have hnc52 := NB135_136.out; have hcz53_0 : w50.cell? ⟨gb136, 0, none⟩ = some (.int .i64 0) := (blk_cell BK136.out 0).trans rfl; have hcz53_1 : w50.cell? ⟨gb136, 1, none⟩ = some (.int .i64 0) := (blk_cell BK136.out 1).trans rfl; have hcz53_2 : w50.cell? ⟨gb136, 2, none⟩ = some (.string (⟨#[]⟩ : ByteArray)) := (blk_cell BK136.out 2).trans rfl; have hfz53_0 := blk_frozen BK136.out 0; have hfz53_1 := blk_frozen BK136.out 1; have hfz53_2 := blk_frozen BK136.out 2; have hcz54_0 : w50.cell? ⟨gb135, 0, none⟩ = some (.int .i64 ((rd_T31 y115 (ji10)).f0)) := (blk_cell BK135.out 0).trans rfl; have hcz54_1 : w50.cell? ⟨gb135, 1, none⟩ = some (.int .i64 ((rd_T31 y115 (ji10)).f1)) := (blk_cell BK135.out 1).trans rfl; have hcz54_2 : w50.cell? ⟨gb135, 2, none⟩ = some (.string ((rd_T31 y115 (ji10)).f2)) := (blk_cell BK135.out 2).trans rfl; have hfz54_0 := blk_frozen BK135.out 0; have hfz54_1 := blk_frozen BK135.out 1; have hfz54_2 := blk_frozen BK135.out 2))
               have n0_ : Aside0 (Kd.R k31 31 ((((((w50.setCell ⟨gb136, 0, none⟩ (.int .i64 ((rd_T31 y115 (ji10)).f0))).setCell ⟨gb136, 1, none⟩ (.int .i64 ((rd_T31 y115 (ji10)).f1))).setCell ⟨gb136, 2, none⟩ (.string ((rd_T31 y115 (ji10)).f2))).setCell ⟨gb136, 1, none⟩ (.int .i64 (wrap64 (((rd_T31 y115 (ji10)).f1) - (wrap64 (Int.tdiv ((rd_T31 y115 (ji10)).f1) 2)))))).setCell ⟨gb135, 1, none⟩ (.int .i64 (wrap64 (Int.tdiv ((rd_T31 y115 (ji10)).f1) 2)))).setCell ⟨gb135, 2, none⟩ (.string (⟨#[]⟩ : ByteArray))) w.heap.size (fun k_ => some k_ ≠ (.slice Ao27 t106.length co27 : Value).ownBlock ∧ some k_ ≠ (.slice (some ad134) y115.length co29 : Value).ownBlock ∧ some k_ ≠ (.slice Ao39 y128.length co39 : Value).ownBlock ∧ some k_ ≠ (v132 : Value).ownBlock ∧ k_ ≠ gb135 ∧ k_ ≠ gb136) (.slice Ao25 t103.length co25) t103) := ⟨by (with_reducible repeat (first | apply R_alloc | apply R_drewN | apply R_drew)); exact R_mono (R_far (p := ⟨gb135, 2, none⟩) (R_far (p := ⟨gb135, 1, none⟩) (R_far (p := ⟨gb136, 1, none⟩) (R_far (p := ⟨gb136, 2, none⟩) (R_far (p := ⟨gb136, 1, none⟩) (R_far (p := ⟨gb136, 0, none⟩) (R_mono (R_mono HO105.out (fun k_ hk => (⟨hk, hk.2⟩ : _ ∧ k_ ≠ gb136))) (fun k_ hk => (⟨hk, hk.1.1.2⟩ : _ ∧ k_ ≠ gb135))) (fun _ hk => hk.1.2) (.int .i64 ((rd_T31 y115 (ji10)).f0))) (fun _ hk => hk.1.2) (.int .i64 ((rd_T31 y115 (ji10)).f1))) (fun _ hk => hk.1.2) (.string ((rd_T31 y115 (ji10)).f2))) (fun _ hk => hk.1.2) (.int .i64 (wrap64 (((rd_T31 y115 (ji10)).f1) - (wrap64 (Int.tdiv ((rd_T31 y115 (ji10)).f1) 2)))))) (fun _ hk => hk.2) (.int .i64 (wrap64 (Int.tdiv ((rd_T31 y115 (ji10)).f1) 2)))) (fun _ hk => hk.2) (.string (⟨#[]⟩ : ByteArray))) (fun _ hk => ⟨hk.1.1.1.1.1.1, ⟨hk.1.1.1.1.1.2.1, ⟨hk.1.1.1.1.1.2.2, ⟨hk.1.1.1.1.2, ⟨hk.1.1.1.2, hk.1.1.2⟩⟩⟩⟩⟩)⟩
               have n1_ : Aside0 (Kd.R k31 31 ((((((w50.setCell ⟨gb136, 0, none⟩ (.int .i64 ((rd_T31 y115 (ji10)).f0))).setCell ⟨gb136, 1, none⟩ (.int .i64 ((rd_T31 y115 (ji10)).f1))).setCell ⟨gb136, 2, none⟩ (.string ((rd_T31 y115 (ji10)).f2))).setCell ⟨gb136, 1, none⟩ (.int .i64 (wrap64 (((rd_T31 y115 (ji10)).f1) - (wrap64 (Int.tdiv ((rd_T31 y115 (ji10)).f1) 2)))))).setCell ⟨gb135, 1, none⟩ (.int .i64 (wrap64 (Int.tdiv ((rd_T31 y115 (ji10)).f1) 2)))).setCell ⟨gb135, 2, none⟩ (.string (⟨#[]⟩ : ByteArray))) w.heap.size (fun k_ => some k_ ≠ (.slice Ao25 t103.length co25 : Value).ownBlock ∧ some k_ ≠ (.slice (some ad134) y115.length co29 : Value).ownBlock ∧ some k_ ≠ (.slice Ao39 y128.length co39 : Value).ownBlock ∧ some k_ ≠ (v132 : Value).ownBlock ∧ k_ ≠ gb135 ∧ k_ ≠ gb136) (.slice Ao27 t106.length co27) t106) := ⟨by (with_reducible repeat (first | apply R_alloc | apply R_drewN | apply R_drew)); exact R_mono (R_far (p := ⟨gb135, 2, none⟩) (R_far (p := ⟨gb135, 1, none⟩) (R_far (p := ⟨gb136, 1, none⟩) (R_far (p := ⟨gb136, 2, none⟩) (R_far (p := ⟨gb136, 1, none⟩) (R_far (p := ⟨gb136, 0, none⟩) (R_mono (R_mono HO108.out (fun k_ hk => (⟨hk, hk.2⟩ : _ ∧ k_ ≠ gb136))) (fun k_ hk => (⟨hk, hk.1.1.2⟩ : _ ∧ k_ ≠ gb135))) (fun _ hk => hk.1.2) (.int .i64 ((rd_T31 y115 (ji10)).f0))) (fun _ hk => hk.1.2) (.int .i64 ((rd_T31 y115 (ji10)).f1))) (fun _ hk => hk.1.2) (.string ((rd_T31 y115 (ji10)).f2))) (fun _ hk => hk.1.2) (.int .i64 (wrap64 (((rd_T31 y115 (ji10)).f1) - (wrap64 (Int.tdiv ((rd_T31 y115 (ji10)).f1) 2)))))) (fun _ hk => hk.2) (.int .i64 (wrap64 (Int.tdiv ((rd_T31 y115 (ji10)).f1) 2)))) (fun _ hk => hk.2) (.string (⟨#[]⟩ : ByteArray))) (fun _ hk => ⟨hk.1.1.1.1.1.1, ⟨hk.1.1.1.1.1.2.1, ⟨hk.1.1.1.1.1.2.2, ⟨hk.1.1.1.1.2, ⟨hk.1.1.1.2, hk.1.1.2⟩⟩⟩⟩⟩)⟩
               have n2_ : Aside0 (Kd.R k31 31 ((((((w50.setCell ⟨gb136, 0, none⟩ (.int .i64 ((rd_T31 y115 (ji10)).f0))).setCell ⟨gb136, 1, none⟩ (.int .i64 ((rd_T31 y115 (ji10)).f1))).setCell ⟨gb136, 2, none⟩ (.string ((rd_T31 y115 (ji10)).f2))).setCell ⟨gb136, 1, none⟩ (.int .i64 (wrap64 (((rd_T31 y115 (ji10)).f1) - (wrap64 (Int.tdiv ((rd_T31 y115 (ji10)).f1) 2)))))).setCell ⟨gb135, 1, none⟩ (.int .i64 (wrap64 (Int.tdiv ((rd_T31 y115 (ji10)).f1) 2)))).setCell ⟨gb135, 2, none⟩ (.string (⟨#[]⟩ : ByteArray))) w.heap.size (fun k_ => some k_ ≠ (.slice Ao25 t103.length co25 : Value).ownBlock ∧ some k_ ≠ (.slice Ao27 t106.length co27 : Value).ownBlock ∧ some k_ ≠ (.slice Ao39 y128.length co39 : Value).ownBlock ∧ some k_ ≠ (v132 : Value).ownBlock ∧ k_ ≠ gb135 ∧ k_ ≠ gb136) (.slice (some ad134) y115.length co29) y115) := ⟨by (with_reducible repeat (first | apply R_alloc | apply R_drewN | apply R_drew)); exact R_mono (R_far (p := ⟨gb135, 2, none⟩) (R_far (p := ⟨gb135, 1, none⟩) (R_far (p := ⟨gb136, 1, none⟩) (R_far (p := ⟨gb136, 2, none⟩) (R_far (p := ⟨gb136, 1, none⟩) (R_far (p := ⟨gb136, 0, none⟩) (R_mono (R_mono HO117.out (fun k_ hk => (⟨hk, hk.2⟩ : _ ∧ k_ ≠ gb136))) (fun k_ hk => (⟨hk, hk.1.1.2⟩ : _ ∧ k_ ≠ gb135))) (fun _ hk => hk.1.2) (.int .i64 ((rd_T31 y115 (ji10)).f0))) (fun _ hk => hk.1.2) (.int .i64 ((rd_T31 y115 (ji10)).f1))) (fun _ hk => hk.1.2) (.string ((rd_T31 y115 (ji10)).f2))) (fun _ hk => hk.1.2) (.int .i64 (wrap64 (((rd_T31 y115 (ji10)).f1) - (wrap64 (Int.tdiv ((rd_T31 y115 (ji10)).f1) 2)))))) (fun _ hk => hk.2) (.int .i64 (wrap64 (Int.tdiv ((rd_T31 y115 (ji10)).f1) 2)))) (fun _ hk => hk.2) (.string (⟨#[]⟩ : ByteArray))) (fun _ hk => ⟨hk.1.1.1.1.1.1, ⟨hk.1.1.1.1.1.2.1, ⟨hk.1.1.1.1.1.2.2, ⟨hk.1.1.1.1.2, ⟨hk.1.1.1.2, hk.1.1.2⟩⟩⟩⟩⟩)⟩
               have n3_ : Aside0 (Kd.R k31 31 ((((((w50.setCell ⟨gb136, 0, none⟩ (.int .i64 ((rd_T31 y115 (ji10)).f0))).setCell ⟨gb136, 1, none⟩ (.int .i64 ((rd_T31 y115 (ji10)).f1))).setCell ⟨gb136, 2, none⟩ (.string ((rd_T31 y115 (ji10)).f2))).setCell ⟨gb136, 1, none⟩ (.int .i64 (wrap64 (((rd_T31 y115 (ji10)).f1) - (wrap64 (Int.tdiv ((rd_T31 y115 (ji10)).f1) 2)))))).setCell ⟨gb135, 1, none⟩ (.int .i64 (wrap64 (Int.tdiv ((rd_T31 y115 (ji10)).f1) 2)))).setCell ⟨gb135, 2, none⟩ (.string (⟨#[]⟩ : ByteArray))) w.heap.size (fun k_ => some k_ ≠ (.slice Ao25 t103.length co25 : Value).ownBlock ∧ some k_ ≠ (.slice Ao27 t106.length co27 : Value).ownBlock ∧ some k_ ≠ (.slice (some ad134) y115.length co29 : Value).ownBlock ∧ some k_ ≠ (v132 : Value).ownBlock ∧ k_ ≠ gb135 ∧ k_ ≠ gb136) (.slice Ao39 y128.length co39) y128) := ⟨by (with_reducible repeat (first | apply R_alloc | apply R_drewN | apply R_drew)); exact R_mono (R_far (p := ⟨gb135, 2, none⟩) (R_far (p := ⟨gb135, 1, none⟩) (R_far (p := ⟨gb136, 1, none⟩) (R_far (p := ⟨gb136, 2, none⟩) (R_far (p := ⟨gb136, 1, none⟩) (R_far (p := ⟨gb136, 0, none⟩) (R_mono (R_mono HO130.out (fun k_ hk => (⟨hk, hk.2⟩ : _ ∧ k_ ≠ gb136))) (fun k_ hk => (⟨hk, hk.1.1.2⟩ : _ ∧ k_ ≠ gb135))) (fun _ hk => hk.1.2) (.int .i64 ((rd_T31 y115 (ji10)).f0))) (fun _ hk => hk.1.2) (.int .i64 ((rd_T31 y115 (ji10)).f1))) (fun _ hk => hk.1.2) (.string ((rd_T31 y115 (ji10)).f2))) (fun _ hk => hk.1.2) (.int .i64 (wrap64 (((rd_T31 y115 (ji10)).f1) - (wrap64 (Int.tdiv ((rd_T31 y115 (ji10)).f1) 2)))))) (fun _ hk => hk.2) (.int .i64 (wrap64 (Int.tdiv ((rd_T31 y115 (ji10)).f1) 2)))) (fun _ hk => hk.2) (.string (⟨#[]⟩ : ByteArray))) (fun _ hk => ⟨hk.1.1.1.1.1.1, ⟨hk.1.1.1.1.1.2.1, ⟨hk.1.1.1.1.1.2.2, ⟨hk.1.1.1.1.2, ⟨hk.1.1.1.2, hk.1.1.2⟩⟩⟩⟩⟩)⟩
               have n4_ : Aside0 (Kd.R k31 31 ((((((w50.setCell ⟨gb136, 0, none⟩ (.int .i64 ((rd_T31 y115 (ji10)).f0))).setCell ⟨gb136, 1, none⟩ (.int .i64 ((rd_T31 y115 (ji10)).f1))).setCell ⟨gb136, 2, none⟩ (.string ((rd_T31 y115 (ji10)).f2))).setCell ⟨gb136, 1, none⟩ (.int .i64 (wrap64 (((rd_T31 y115 (ji10)).f1) - (wrap64 (Int.tdiv ((rd_T31 y115 (ji10)).f1) 2)))))).setCell ⟨gb135, 1, none⟩ (.int .i64 (wrap64 (Int.tdiv ((rd_T31 y115 (ji10)).f1) 2)))).setCell ⟨gb135, 2, none⟩ (.string (⟨#[]⟩ : ByteArray))) w.heap.size (fun k_ => some k_ ≠ (.slice Ao25 t103.length co25 : Value).ownBlock ∧ some k_ ≠ (.slice Ao27 t106.length co27 : Value).ownBlock ∧ some k_ ≠ (.slice (some ad134) y115.length co29 : Value).ownBlock ∧ some k_ ≠ (.slice Ao39 y128.length co39 : Value).ownBlock ∧ k_ ≠ gb135 ∧ k_ ≠ gb136) v132 y131) := ⟨by (with_reducible repeat (first | apply R_alloc | apply R_drewN | apply R_drew)); exact R_mono (R_far (p := ⟨gb135, 2, none⟩) (R_far (p := ⟨gb135, 1, none⟩) (R_far (p := ⟨gb136, 1, none⟩) (R_far (p := ⟨gb136, 2, none⟩) (R_far (p := ⟨gb136, 1, none⟩) (R_far (p := ⟨gb136, 0, none⟩) (R_mono (R_mono HO133.out (fun k_ hk => (⟨hk, hk.2⟩ : _ ∧ k_ ≠ gb136))) (fun k_ hk => (⟨hk, hk.1.1.2⟩ : _ ∧ k_ ≠ gb135))) (fun _ hk => hk.1.2) (.int .i64 ((rd_T31 y115 (ji10)).f0))) (fun _ hk => hk.1.2) (.int .i64 ((rd_T31 y115 (ji10)).f1))) (fun _ hk => hk.1.2) (.string ((rd_T31 y115 (ji10)).f2))) (fun _ hk => hk.1.2) (.int .i64 (wrap64 (((rd_T31 y115 (ji10)).f1) - (wrap64 (Int.tdiv ((rd_T31 y115 (ji10)).f1) 2)))))) (fun _ hk => hk.2) (.int .i64 (wrap64 (Int.tdiv ((rd_T31 y115 (ji10)).f1) 2)))) (fun _ hk => hk.2) (.string (⟨#[]⟩ : ByteArray))) (fun _ hk => ⟨hk.1.1.1.1.1, ⟨hk.1.1.1.1.2.1, ⟨hk.1.1.1.1.2.2.1, ⟨hk.1.1.1.1.2.2.2, ⟨hk.1.1.1.2, hk.1.1.2⟩⟩⟩⟩⟩)⟩
               have n5_ : Aside0 (((((((w50.setCell ⟨gb136, 0, none⟩ (.int .i64 ((rd_T31 y115 (ji10)).f0))).setCell ⟨gb136, 1, none⟩ (.int .i64 ((rd_T31 y115 (ji10)).f1))).setCell ⟨gb136, 2, none⟩ (.string ((rd_T31 y115 (ji10)).f2))).setCell ⟨gb136, 1, none⟩ (.int .i64 (wrap64 (((rd_T31 y115 (ji10)).f1) - (wrap64 (Int.tdiv ((rd_T31 y115 (ji10)).f1) 2)))))).setCell ⟨gb135, 1, none⟩ (.int .i64 (wrap64 (Int.tdiv ((rd_T31 y115 (ji10)).f1) 2)))).setCell ⟨gb135, 2, none⟩ (.string (⟨#[]⟩ : ByteArray))).heap[gb101]? = some (.cells #[.int .u8 a2_0, .int .u8 a2_1, .int .u8 a2_2] 29 (0, 0))) := ⟨by (with_reducible repeat (first | refine blk_drewN ?_ _ | refine blk_drew ?_ | refine blk_alloc ?_ _)); refine blk_far ?_ NB101_135.out _; (with_reducible repeat (first | refine blk_drewN ?_ _ | refine blk_drew ?_ | refine blk_alloc ?_ _)); refine blk_far ?_ NB101_135.out _; (with_reducible repeat (first | refine blk_drewN ?_ _ | refine blk_drew ?_ | refine blk_alloc ?_ _)); refine blk_far ?_ NB101_136.out _; (with_reducible repeat (first | refine blk_drewN ?_ _ | refine blk_drew ?_ | refine blk_alloc ?_ _)); refine blk_far ?_ NB101_136.out _; (with_reducible repeat (first | refine blk_drewN ?_ _ | refine blk_drew ?_ | refine blk_alloc ?_ _)); refine blk_far ?_ NB101_136.out _; (with_reducible repeat (first | refine blk_drewN ?_ _ | refine blk_drew ?_ | refine blk_alloc ?_ _)); refine blk_far ?_ NB101_136.out _; (with_reducible repeat (first | refine blk_drewN ?_ _ | refine blk_drew ?_ | refine blk_alloc ?_ _)); exact BK101.out⟩
               have n6_ : Aside0 (((((((w50.setCell ⟨gb136, 0, none⟩ (.int .i64 ((rd_T31 y115 (ji10)).f0))).setCell ⟨gb136, 1, none⟩ (.int .i64 ((rd_T31 y115 (ji10)).f1))).setCell ⟨gb136, 2, none⟩ (.string ((rd_T31 y115 (ji10)).f2))).setCell ⟨gb136, 1, none⟩ (.int .i64 (wrap64 (((rd_T31 y115 (ji10)).f1) - (wrap64 (Int.tdiv ((rd_T31 y115 (ji10)).f1) 2)))))).setCell ⟨gb135, 1, none⟩ (.int .i64 (wrap64 (Int.tdiv ((rd_T31 y115 (ji10)).f1) 2)))).setCell ⟨gb135, 2, none⟩ (.string (⟨#[]⟩ : ByteArray))).heap[gb135]? = some (.cells #[.int .i64 ((rd_T31 y115 (ji10)).f0), .int .i64 (wrap64 (Int.tdiv ((rd_T31 y115 (ji10)).f1) 2)), .string (⟨#[]⟩ : ByteArray)] 31 (0, 0))) := ⟨by (with_reducible repeat (first | refine blk_drewN ?_ _ | refine blk_drew ?_ | refine blk_alloc ?_ _)); refine blk_put (cs := #[.int .i64 ((rd_T31 y115 (ji10)).f0), .int .i64 (wrap64 (Int.tdiv ((rd_T31 y115 (ji10)).f1) 2)), .string ((rd_T31 y115 (ji10)).f2)]) ?_ 2 _ rfl; (with_reducible repeat (first | refine blk_drewN ?_ _ | refine blk_drew ?_ | refine blk_alloc ?_ _)); refine blk_put (cs := #[.int .i64 ((rd_T31 y115 (ji10)).f0), .int .i64 ((rd_T31 y115 (ji10)).f1), .string ((rd_T31 y115 (ji10)).f2)]) ?_ 1 _ rfl; (with_reducible repeat (first | refine blk_drewN ?_ _ | refine blk_drew ?_ | refine blk_alloc ?_ _)); refine blk_far ?_ NB135_136.out _; (with_reducible repeat (first | refine blk_drewN ?_ _ | refine blk_drew ?_ | refine blk_alloc ?_ _)); refine blk_far ?_ NB135_136.out _; (with_reducible repeat (first | refine blk_drewN ?_ _ | refine blk_drew ?_ | refine blk_alloc ?_ _)); refine blk_far ?_ NB135_136.out _; (with_reducible repeat (first | refine blk_drewN ?_ _ | refine blk_drew ?_ | refine blk_alloc ?_ _)); refine blk_far ?_ NB135_136.out _; (with_reducible repeat (first | refine blk_drewN ?_ _ | refine blk_drew ?_ | refine blk_alloc ?_ _)); exact BK135.out⟩
               have n7_ : Aside0 (((((((w50.setCell ⟨gb136, 0, none⟩ (.int .i64 ((rd_T31 y115 (ji10)).f0))).setCell ⟨gb136, 1, none⟩ (.int .i64 ((rd_T31 y115 (ji10)).f1))).setCell ⟨gb136, 2, none⟩ (.string ((rd_T31 y115 (ji10)).f2))).setCell ⟨gb136, 1, none⟩ (.int .i64 (wrap64 (((rd_T31 y115 (ji10)).f1) - (wrap64 (Int.tdiv ((rd_T31 y115 (ji10)).f1) 2)))))).setCell ⟨gb135, 1, none⟩ (.int .i64 (wrap64 (Int.tdiv ((rd_T31 y115 (ji10)).f1) 2)))).setCell ⟨gb135, 2, none⟩ (.string (⟨#[]⟩ : ByteArray))).heap[gb136]? = some (.cells #[.int .i64 ((rd_T31 y115 (ji10)).f0), .int .i64 (wrap64 (((rd_T31 y115 (ji10)).f1) - (wrap64 (Int.tdiv ((rd_T31 y115 (ji10)).f1) 2)))), .string ((rd_T31 y115 (ji10)).f2)] 31 (0, 0))) := ⟨by (with_reducible repeat (first | refine blk_drewN ?_ _ | refine blk_drew ?_ | refine blk_alloc ?_ _)); refine blk_far ?_ NB136_135.out _; (with_reducible repeat (first | refine blk_drewN ?_ _ | refine blk_drew ?_ | refine blk_alloc ?_ _)); refine blk_far ?_ NB136_135.out _; (with_reducible repeat (first | refine blk_drewN ?_ _ | refine blk_drew ?_ | refine blk_alloc ?_ _)); refine blk_put (cs := #[.int .i64 ((rd_T31 y115 (ji10)).f0), .int .i64 ((rd_T31 y115 (ji10)).f1), .string ((rd_T31 y115 (ji10)).f2)]) ?_ 1 _ rfl; (with_reducible repeat (first | refine blk_drewN ?_ _ | refine blk_drew ?_ | refine blk_alloc ?_ _)); refine blk_put (cs := #[.int .i64 ((rd_T31 y115 (ji10)).f0), .int .i64 ((rd_T31 y115 (ji10)).f1), .string (⟨#[]⟩ : ByteArray)]) ?_ 2 _ rfl; (with_reducible repeat (first | refine blk_drewN ?_ _ | refine blk_drew ?_ | refine blk_alloc ?_ _)); refine blk_put (cs := #[.int .i64 ((rd_T31 y115 (ji10)).f0), .int .i64 0, .string (⟨#[]⟩ : ByteArray)]) ?_ 1 _ rfl; (with_reducible repeat (first | refine blk_drewN ?_ _ | refine blk_drew ?_ | refine blk_alloc ?_ _)); refine blk_put (cs := #[.int .i64 0, .int .i64 0, .string (⟨#[]⟩ : ByteArray)]) ?_ 0 _ rfl; (with_reducible repeat (first | refine blk_drewN ?_ _ | refine blk_drew ?_ | refine blk_alloc ?_ _)); exact BK136.out⟩
               have n8_ : Aside0 (Below w.heap.size w ((((((w50.setCell ⟨gb136, 0, none⟩ (.int .i64 ((rd_T31 y115 (ji10)).f0))).setCell ⟨gb136, 1, none⟩ (.int .i64 ((rd_T31 y115 (ji10)).f1))).setCell ⟨gb136, 2, none⟩ (.string ((rd_T31 y115 (ji10)).f2))).setCell ⟨gb136, 1, none⟩ (.int .i64 (wrap64 (((rd_T31 y115 (ji10)).f1) - (wrap64 (Int.tdiv ((rd_T31 y115 (ji10)).f1) 2)))))).setCell ⟨gb135, 1, none⟩ (.int .i64 (wrap64 (Int.tdiv ((rd_T31 y115 (ji10)).f1) 2)))).setCell ⟨gb135, 2, none⟩ (.string (⟨#[]⟩ : ByteArray)))) := ⟨by repeat (first | (with_reducible first | exact HB.out | apply below_alloc | apply pw_below_drewN | apply below_drew1 | refine below_set ?_ GE101.out | refine below_set ?_ GE135.out | refine below_set ?_ GE136.out) | exact HB.out)⟩
               (try clear HO105)
               (try clear HO108)
               (try clear HO117)
               (try clear HO130)
               (try clear HO133)
               (try clear BK101)
               (try clear BK135)
               (try clear BK136)
               (try clear HB)
               generalize ((((((w50.setCell ⟨gb136, 0, none⟩ (.int .i64 ((rd_T31 y115 (ji10)).f0))).setCell ⟨gb136, 1, none⟩ (.int .i64 ((rd_T31 y115 (ji10)).f1))).setCell ⟨gb136, 2, none⟩ (.string ((rd_T31 y115 (ji10)).f2))).setCell ⟨gb136, 1, none⟩ (.int .i64 (wrap64 (((rd_T31 y115 (ji10)).f1) - (wrap64 (Int.tdiv ((rd_T31 y115 (ji10)).f1) 2)))))).setCell ⟨gb135, 1, none⟩ (.int .i64 (wrap64 (Int.tdiv ((rd_T31 y115 (ji10)).f1) 2)))).setCell ⟨gb135, 2, none⟩ (.string (⟨#[]⟩ : ByteArray))) = w55 at n0_ n1_ n2_ n3_ n4_ n5_ n6_ n7_ n8_ ⊢
               have HO105 := n0_
               have HO108 := n1_
               have HO117 := n2_
               have HO130 := n3_
               have HO133 := n4_
               have BK101 := n5_
               have BK135 := n6_
               have BK136 := n7_
               have HB := n8_
               clear n0_ n1_ n2_ n3_ n4_ n5_ n6_ n7_ n8_
               have n0_ := Am (R_drew HO105.out)
               have n1_ := Am (R_drew HO108.out)
               have n2_ := Am (R_drew HO117.out)
               have n3_ := Am (R_drew HO130.out)
               have n4_ := Am (R_drew HO133.out)
               have n5_ := Am (blk_drew BK101.out)
               have n6_ := Am (blk_drew BK135.out)
               have n7_ := Am (blk_drew BK136.out)
               have n8_ := Am (below_drew1 HB.out)
               clear HO105
               clear HO108
               clear HO117
               clear HO130
               clear HO133
               clear BK101
               clear BK135
               clear BK136
               clear HB
               have HO105 := n0_
               have HO108 := n1_
               have HO117 := n2_
               have HO130 := n3_
               have HO133 := n4_
               have BK101 := n5_
               have BK135 := n6_
               have BK136 := n7_
               have HB := n8_
               clear n0_ n1_ n2_ n3_ n4_ n5_ n6_ n7_ n8_
               have q57 : ((ji43) : Int) ≤ ((y115.length : Int) : Int) := of_decide_eq_true (by first | (with_reducible assumption) | assumption)
               obtain ⟨i057, hi057, _, hsz57, _⟩ := info_parts info31
               have hroom57 : y115.length ≤ co29 := (R_reads' HO117.out).2.1
               have hC57 : Kd.C k31 _ (some ad134) y115.length y115 := (R_reads' HO117.out).2.2
               have q057 : (0 : Int) ≤ ((ji43) : Int) := of_decide_eq_true (by first | (with_reducible assumption) | assumption)
               have hcut57 := cut_from (P := Try.prog) 22 31 .i64 Try.underlying22 hi057 3 hsz57 (some ad134) y115.length co29 (ji43) q057 q57
               have hr57 := C_drop (m := ((ji43) : Int).toNat) (c := co29) hC57 (by omega) hroom57
               obtain ⟨A57, hA57⟩ : ∃ A1, A1 = (if co29 = ((ji43) : Int).toNat then (some ad134) else ((some ad134) : Option Addr).map (·.add (((ji43) : Int).toNat * 3))) := ⟨_, rfl⟩
               obtain ⟨c57, hc57⟩ : ∃ c1, c1 = co29 - ((ji43) : Int).toNat := ⟨_, rfl⟩
               have hy57 : y143.length = y115.length - ((ji43) : Int).toNat := (by rw [Ny143.out, List.length_drop] <;> omega)
               rw [show (y115).drop ((ji43) : Int).toNat = y143 from Ny143.out.symm] at hr57
               replace hr57 : Kd.C k31 _ A57 y143.length y143 := (by rw [hA57]; exact hr57)
               rw [← hy57, ← hA57, ← hc57] at hcut57
               have HR146 := Am hr57
               have HC146 := Am (show y143.length ≤ c57 from by rw [hy57, hc57]; exact Nat.sub_le_sub_right hroom57 _)
               clear hr57 hC57 hroom57 hi057 hsz57 hc57
               have KY57 := Am hy57
               have KA57 := Am hA57
               clear hy57 hA57
               have KL57 := Am (show ((ji43) : Int).toNat ≤ y115.length from by omega)
               replace q57 := eq_true q57
               refine start_ (n := 11) (S := fun w' => w'.cell? ⟨gb135, 0, none⟩ = some (.int .i64 ((rd_T31 y115 (ji10)).f0)) ∧ w'.cell? ⟨gb135, 1, none⟩ = some (.int .i64 (wrap64 (Int.tdiv ((rd_T31 y115 (ji10)).f1) 2))) ∧ w'.cell? ⟨gb135, 2, none⟩ = some (.string (⟨#[]⟩ : ByteArray)) ∧ w'.cell? ⟨gb136, 0, none⟩ = some (.int .i64 ((rd_T31 y115 (ji10)).f0)) ∧ w'.cell? ⟨gb136, 1, none⟩ = some (.int .i64 (wrap64 (((rd_T31 y115 (ji10)).f1) - (wrap64 (Int.tdiv ((rd_T31 y115 (ji10)).f1) 2))))) ∧ w'.cell? ⟨gb136, 2, none⟩ = some (.string ((rd_T31 y115 (ji10)).f2))) (ds := []) #[false, false, false, false, false, false, false, false, false, false, false] (by kernel_rfl) rfl rfl ⟨(blk_cell BK135.out 0).trans rfl, (blk_cell BK135.out 1).trans rfl, (blk_cell BK135.out 2).trans rfl, (blk_cell BK136.out 0).trans rfl, (blk_cell BK136.out 1).trans rfl, (blk_cell BK136.out 2).trans rfl⟩ (fun hHeld => ?_); refine with_tabW epitomelaw05_NormalParts.tab15 epitomelaw05_NormalParts.bits15 (fun HT_ HW_ => ?_)
               generalize w55.drew = w56 at HO105 HO108 HO117 HO130 HO133 BK101 BK135 BK136 HB HR146 hHeld ⊢
               refine pure_ (i := 0) (N := some 78) (v := ?_) (a' := ?_) #[true, false, false, false, false, false, false, false, false, false, false] rfl rfl (any_of HT_.out (by kernel_rfl)) (fun _ _ _ h => h) (Or.inl ⟨by rfl, ?_⟩) ?_ ?_
               rotate_left
               ·intro w'
                go_simp
                with_reducible rfl
               rotate_left
               ·simp only [Act.put, List.setIfInBounds_toArray, List.set_cons_zero, List.set_cons_succ, i64_w, i32_w]
                rfl
               refine pure_ (i := 5) (N := some 83) (v := ?_) (a' := ?_) #[true, false, false, false, false, true, false, false, false, false, false] rfl rfl (any_of HT_.out (by kernel_rfl)) (fun _ _ _ h => h) (Or.inl ⟨by rfl, ?_⟩) ?_ ?_
               rotate_left
               ·intro w'
                go_simp
                with_reducible rfl
               rotate_left
               ·simp only [Act.put, List.setIfInBounds_toArray, List.set_cons_zero, List.set_cons_succ, i64_w, i32_w]
                rfl
               refine pure_ (i := 6) (N := some 84) (v := ?_) (a' := ?_) #[true, false, false, false, false, true, true, false, false, false, false] rfl rfl (any_of HT_.out (by kernel_rfl)) (fun _ _ _ h => h) (Or.inl ⟨by rfl, ?_⟩) ?_ ?_
               rotate_left
               ·intro w'
                go_simp
                with_reducible rfl
               rotate_left
               ·simp only [Act.put, List.setIfInBounds_toArray, List.set_cons_zero, List.set_cons_succ, i64_w, i32_w]
                rfl
               refine pure_ (i := 7) (N := some 85) (v := ?_) (a' := ?_) #[true, false, false, false, false, true, true, true, false, false, false] rfl rfl (any_of HT_.out (by kernel_rfl)) (fun _ _ _ h => h) (Or.inl ⟨by rfl, ?_⟩) ?_ ?_
               rotate_left
               ·intro w'
                go_simp
                with_reducible rfl
               rotate_left
               ·simp only [Act.put, List.setIfInBounds_toArray, List.set_cons_zero, List.set_cons_succ, i64_w, i32_w]
                rfl
               refine pure_ (i := 8) (N := some 86) (v := ?_) (a' := ?_) #[true, false, false, false, false, true, true, true, true, false, false] rfl rfl (any_of HT_.out (by kernel_rfl)) (fun _ _ _ h => h) (Or.inl ⟨by rfl, ?_⟩) ?_ ?_
               rotate_left
               ·intro w'
                go_simp
                with_reducible rfl
               rotate_left
               ·simp only [Act.put, List.setIfInBounds_toArray, List.set_cons_zero, List.set_cons_succ, i64_w, i32_w]
                rfl
               refine take_ (i := 1) (N := some 79) (v := ?_) (a' := ?_) #[true, true, false, false, false, true, true, true, true, false, false] rfl rfl (take_ofW HT_.out HW_.out (by kernel_rfl)) (fun _ _ _ h => h) (Or.inl ⟨by rfl, ?_⟩) hHeld ?_ ?_
               rotate_left
               ·rintro w' ⟨s0, s1, s2, s3, s4, s5⟩
                go_simp
                with_reducible rfl
               rotate_left
               ·simp only [Act.put, List.setIfInBounds_toArray, List.set_cons_zero, List.set_cons_succ, i64_w, i32_w]
                rfl
               refine take_ (i := 2) (N := some 80) (v := ?_) (a' := ?_) #[true, true, true, false, false, true, true, true, true, false, false] rfl rfl (take_ofW HT_.out HW_.out (by kernel_rfl)) (fun _ _ _ h => h) (Or.inl ⟨by rfl, ?_⟩) hHeld ?_ ?_
               rotate_left
               ·rintro w' ⟨s0, s1, s2, s3, s4, s5⟩
                go_simp
                with_reducible rfl
               rotate_left
               ·simp only [Act.put, List.setIfInBounds_toArray, List.set_cons_zero, List.set_cons_succ, i64_w, i32_w]
                rfl
               refine one_ (i := 3) (N := some 81) #[true, true, true, true, false, true, true, true, true, false, false] rfl rfl (one_of HT_.out (by kernel_rfl)) (by decide) (fun K hK => ?_)
               refine R_lit_step k31 _ 31 ?hg (N := 81) ?hd (xs := ([(⟨(rd_T31 y115 (ji10)).f0, wrap64 (Int.tdiv ((rd_T31 y115 (ji10)).f1) 2), (⟨#[]⟩ : ByteArray)⟩ : S31), (⟨(rd_T31 y115 (ji10)).f0, wrap64 (((rd_T31 y115 (ji10)).f1) - (wrap64 (Int.tdiv ((rd_T31 y115 (ji10)).f1) 2))), (rd_T31 y115 (ji10)).f2⟩ : S31)] : List (S31))) (inner := [.int .i64 ((rd_T31 y115 (ji10)).f0), .int .i64 (wrap64 (Int.tdiv ((rd_T31 y115 (ji10)).f1) 2)), .string (⟨#[]⟩ : ByteArray), .int .i64 ((rd_T31 y115 (ji10)).f0), .int .i64 (wrap64 (((rd_T31 y115 (ji10)).f1) - (wrap64 (Int.tdiv ((rd_T31 y115 (ji10)).f1) 2)))), .string ((rd_T31 y115 (ji10)).f2)]) (ok := fun _ => True) (okp := fun _ => True) ?hr ?hp (fun _ hk => hk) trivial (Below.refl _ _) (Nat.le_refl _) (by simp) ?_; (case hd => rfl); (case hg => rfl); (case hr => first | (go_simp; done) | (go_simp; rfl)); (case hp => exact (Reps.c3 (show Kd.M k31 _ _ _ (⟨(rd_T31 y115 (ji10)).f0, wrap64 (Int.tdiv ((rd_T31 y115 (ji10)).f1) 2), (⟨#[]⟩ : ByteArray)⟩ : S31) [.int .i64 ((rd_T31 y115 (ji10)).f0), .int .i64 (wrap64 (Int.tdiv ((rd_T31 y115 (ji10)).f1) 2)), .string (⟨#[]⟩ : ByteArray)] from (k31_mkM _ _ _ (⟨(rd_T31 y115 (ji10)).f0, wrap64 (Int.tdiv ((rd_T31 y115 (ji10)).f1) 2), (⟨#[]⟩ : ByteArray)⟩ : S31) )) (Reps.c3 (show Kd.M k31 _ _ _ (⟨(rd_T31 y115 (ji10)).f0, wrap64 (((rd_T31 y115 (ji10)).f1) - (wrap64 (Int.tdiv ((rd_T31 y115 (ji10)).f1) 2))), (rd_T31 y115 (ji10)).f2⟩ : S31) [.int .i64 ((rd_T31 y115 (ji10)).f0), .int .i64 (wrap64 (((rd_T31 y115 (ji10)).f1) - (wrap64 (Int.tdiv ((rd_T31 y115 (ji10)).f1) 2)))), .string ((rd_T31 y115 (ji10)).f2)] from (k31_mkM _ _ _ (⟨(rd_T31 y115 (ji10)).f0, wrap64 (((rd_T31 y115 (ji10)).f1) - (wrap64 (Int.tdiv ((rd_T31 y115 (ji10)).f1) 2))), (rd_T31 y115 (ji10)).f2⟩ : S31) )) (Reps.none _ _))))
               intro v138 w58 ho59 hb hg_ hnew_
               clear hg_ hnew_
               (first | rw [← Ny137.out] at ho59 | (simp only [Int.reduceToNat] at ho59; rw [← Ny137.out] at ho59))
               have n0_ := Am (R_elder' (by (with_reducible repeat (first | apply R_alloc | apply R_drewN | apply R_drew)); exact HO105.out) (R_base ho59) hb)
               have n1_ := Am (R_elder' (by (with_reducible repeat (first | apply R_alloc | apply R_drewN | apply R_drew)); exact HO108.out) (R_base ho59) hb)
               have n2_ := Am (R_elder' (by (with_reducible repeat (first | apply R_alloc | apply R_drewN | apply R_drew)); exact HO117.out) (R_base ho59) hb)
               have n3_ := Am (R_elder' (by (with_reducible repeat (first | apply R_alloc | apply R_drewN | apply R_drew)); exact HO130.out) (R_base ho59) hb)
               have n4_ := Am (R_elder' (by (with_reducible repeat (first | apply R_alloc | apply R_drewN | apply R_drew)); exact HO133.out) (R_base ho59) hb)
               have n5_ := Am (R_lower (R_newB (R_newB (R_new' (R_new' (R_new' (R_new' (R_new' ho59 (R_lt (by (with_reducible repeat (first | apply R_alloc | apply R_drewN | apply R_drew)); exact HO105.out))) (R_lt (by (with_reducible repeat (first | apply R_alloc | apply R_drewN | apply R_drew)); exact HO108.out))) (R_lt (by (with_reducible repeat (first | apply R_alloc | apply R_drewN | apply R_drew)); exact HO117.out))) (R_lt (by (with_reducible repeat (first | apply R_alloc | apply R_drewN | apply R_drew)); exact HO130.out))) (R_lt (by (with_reducible repeat (first | apply R_alloc | apply R_drewN | apply R_drew)); exact HO133.out))) (g := gb135) (o := .cells #[.int .i64 ((rd_T31 y115 (ji10)).f0), .int .i64 (wrap64 (Int.tdiv ((rd_T31 y115 (ji10)).f1) 2)), .string (⟨#[]⟩ : ByteArray)] 31 (0, 0)) (by (with_reducible repeat (first | refine blk_drewN ?_ _ | refine blk_drew ?_ | refine blk_alloc ?_ _)); exact BK135.out)) (g := gb136) (o := .cells #[.int .i64 ((rd_T31 y115 (ji10)).f0), .int .i64 (wrap64 (((rd_T31 y115 (ji10)).f1) - (wrap64 (Int.tdiv ((rd_T31 y115 (ji10)).f1) 2)))), .string ((rd_T31 y115 (ji10)).f2)] 31 (0, 0)) (by (with_reducible repeat (first | refine blk_drewN ?_ _ | refine blk_drew ?_ | refine blk_alloc ?_ _)); exact BK136.out)) (below_size (by repeat (first | (with_reducible first | exact HB.out | apply below_alloc | apply pw_below_drewN | apply below_drew1 | refine below_set ?_ GE101.out | refine below_set ?_ GE135.out | refine below_set ?_ GE136.out) | exact HB.out))))
               have n6_ := Am (blk_below (g := gb101) (o := .cells #[.int .u8 a2_0, .int .u8 a2_1, .int .u8 a2_2] 29 (0, 0)) (by (with_reducible repeat (first | refine blk_drewN ?_ _ | refine blk_drew ?_ | refine blk_alloc ?_ _)); exact BK101.out) hb)
               have n7_ := Am (blk_below (g := gb135) (o := .cells #[.int .i64 ((rd_T31 y115 (ji10)).f0), .int .i64 (wrap64 (Int.tdiv ((rd_T31 y115 (ji10)).f1) 2)), .string (⟨#[]⟩ : ByteArray)] 31 (0, 0)) (by (with_reducible repeat (first | refine blk_drewN ?_ _ | refine blk_drew ?_ | refine blk_alloc ?_ _)); exact BK135.out) hb)
               have n8_ := Am (blk_below (g := gb136) (o := .cells #[.int .i64 ((rd_T31 y115 (ji10)).f0), .int .i64 (wrap64 (((rd_T31 y115 (ji10)).f1) - (wrap64 (Int.tdiv ((rd_T31 y115 (ji10)).f1) 2)))), .string ((rd_T31 y115 (ji10)).f2)] 31 (0, 0)) (by (with_reducible repeat (first | refine blk_drewN ?_ _ | refine blk_drew ?_ | refine blk_alloc ?_ _)); exact BK136.out) hb)
               have n9_ := Am (C_below (by repeat (first | (with_reducible exact HR146.out) | (with_reducible refine C_alloc ?_ _) | (with_reducible refine C_drewN ?_ _) | (with_reducible refine C_drew ?_) | exact HR146.out)) hb)
               have n10_ := Am (below_step (by repeat (first | (with_reducible first | exact HB.out | apply below_alloc | apply pw_below_drewN | apply below_drew1 | refine below_set ?_ GE101.out | refine below_set ?_ GE135.out | refine below_set ?_ GE136.out) | exact HB.out)) hb)
               clear HO105
               clear HO108
               clear HO117
               clear HO130
               clear HO133
               clear BK101
               clear BK135
               clear BK136
               clear HR146
               clear HB
               have HO105 := n0_
               have HO108 := n1_
               have HO117 := n2_
               have HO130 := n3_
               have HO133 := n4_
               have HO139 := n5_
               have BK101 := n6_
               have BK135 := n7_
               have BK136 := n8_
               have HR146 := n9_
               have HB := n10_
               clear n0_ n1_ n2_ n3_ n4_ n5_ n6_ n7_ n8_ n9_ n10_
               clear hb ho59
               obtain ⟨Ao61, co61, eo61⟩ := R_slice HO139.out
               (first | subst eo61 | (injection eo61 with f1_ f2_ f3_; have f4_ := f1_.symm; have f5_ := f3_.symm; clear f1_ f2_ f3_; subst f4_; subst f5_))
               refine hK.out _ _ ⟨(blk_cell BK135.out 0).trans rfl, (blk_cell BK135.out 1).trans rfl, (blk_cell BK135.out 2).trans rfl, (blk_cell BK136.out 0).trans rfl, (blk_cell BK136.out 1).trans rfl, (blk_cell BK136.out 2).trans rfl⟩ (fun hHeld => ?_)
               clear hK K
               refine norm_ (a' := ?_) ?_ ?_
               rotate_left
               ·show Act.put _ (some 81) _ = _
                simp only [Act.put, List.setIfInBounds_toArray, List.set_cons_zero, List.set_cons_succ, i64_w, i32_w]
                rfl
               refine one_ (i := 4) (N := some 82) #[true, true, true, true, true, true, true, true, true, false, false] rfl rfl (one_of HT_.out (by kernel_rfl)) (by decide) (fun K hK => ?_)
               refine R_append_rows_step k31 (w0 := w) w.heap.size (by rfl) (.tmp 78) (.tmp 81) 22 31 (.agg #[(.int .i64 0), (.int .i64 0), (.string ⟨#[]⟩)]) 32 rfl Try.underlying22 info31 rfl (by decide) (by omega) v132 y131 y137 _ _ _ (fun k_ => some k_ ≠ (.slice Ao25 t103.length co25 : Value).ownBlock ∧ some k_ ≠ (.slice Ao27 t106.length co27 : Value).ownBlock ∧ some k_ ≠ (.slice (some ad134) y115.length co29 : Value).ownBlock ∧ some k_ ≠ (.slice Ao39 y128.length co39 : Value).ownBlock ∧ some k_ ≠ (.slice Ao61 y137.length co61 : Value).ownBlock ∧ k_ ≠ gb135 ∧ k_ ≠ gb136) (fun _ => False) rfl rfl ?aO ?aR (fun _ _ h => h) (fun _ h => h.elim) ?aF ?aB ?aS ?aL ?_
               (case aR => repeat (first | exact (R_reads' HO139.out).2.2 | (with_reducible refine C_alloc ?_ _) | (with_reducible refine C_drewN ?_ _) | (with_reducible refine C_drew ?_)))
               (case aB => exact (by repeat (first | (with_reducible first | exact HB.out | apply below_alloc | apply pw_below_drewN | apply below_drew1 | refine below_set ?_ GE101.out | refine below_set ?_ GE135.out | refine below_set ?_ GE136.out) | exact HB.out)))
               (case aF => exact (fun k_ hk => ⟨Kd.fresh' (R_lt (by (with_reducible repeat (first | apply R_alloc | apply R_drewN | apply R_drew)); exact HO105.out)) k_ hk, Kd.fresh' (R_lt (by (with_reducible repeat (first | apply R_alloc | apply R_drewN | apply R_drew)); exact HO108.out)) k_ hk, Kd.fresh' (R_lt (by (with_reducible repeat (first | apply R_alloc | apply R_drewN | apply R_drew)); exact HO117.out)) k_ hk, Kd.fresh' (R_lt (by (with_reducible repeat (first | apply R_alloc | apply R_drewN | apply R_drew)); exact HO130.out)) k_ hk, Kd.fresh' (R_lt (by (with_reducible repeat (first | apply R_alloc | apply R_drewN | apply R_drew)); exact HO139.out)) k_ hk, Kd.freshB (g := gb135) (o := .cells #[.int .i64 ((rd_T31 y115 (ji10)).f0), .int .i64 (wrap64 (Int.tdiv ((rd_T31 y115 (ji10)).f1) 2)), .string (⟨#[]⟩ : ByteArray)] 31 (0, 0)) (by (with_reducible repeat (first | refine blk_drewN ?_ _ | refine blk_drew ?_ | refine blk_alloc ?_ _)); exact BK135.out) k_ hk, Kd.freshB (g := gb136) (o := .cells #[.int .i64 ((rd_T31 y115 (ji10)).f0), .int .i64 (wrap64 (((rd_T31 y115 (ji10)).f1) - (wrap64 (Int.tdiv ((rd_T31 y115 (ji10)).f1) 2)))), .string ((rd_T31 y115 (ji10)).f2)] 31 (0, 0)) (by (with_reducible repeat (first | refine blk_drewN ?_ _ | refine blk_drew ?_ | refine blk_alloc ?_ _)); exact BK136.out) k_ hk⟩))
               (case aO => exact (by (with_reducible repeat (first | apply R_alloc | apply R_drewN | apply R_drew)); exact R_mono HO133.out (fun _ hk => ⟨hk.1.1, ⟨hk.1.2.1, ⟨hk.1.2.2.1, ⟨hk.1.2.2.2.1, ⟨hk.2, ⟨hk.1.2.2.2.2.1, hk.1.2.2.2.2.2⟩⟩⟩⟩⟩⟩)))
               (case aS => exact (below_size (by repeat (first | (with_reducible first | exact HB.out | apply below_alloc | apply pw_below_drewN | apply below_drew1 | refine below_set ?_ GE101.out | refine below_set ?_ GE135.out | refine below_set ?_ GE136.out) | exact HB.out))))
               (case aL => have := LMc42.out; omega)
               intro v141 w60 ho hb hg hat
               rw [← Ny140.out] at ho
               have n0_ := Am (blk_grown (g := gb101) (o := .cells #[.int .u8 a2_0, .int .u8 a2_1, .int .u8 a2_2] 29 (0, 0)) (by (with_reducible repeat (first | refine blk_drewN ?_ _ | refine blk_drew ?_ | refine blk_alloc ?_ _)); exact BK101.out) hg (R_ne HO133.out BK101.out (by decide)))
               have n1_ := Am (R_after (ok := (fun k_ => some k_ ≠ (.slice Ao27 t106.length co27 : Value).ownBlock ∧ some k_ ≠ (.slice (some ad134) y115.length co29 : Value).ownBlock ∧ some k_ ≠ (.slice Ao39 y128.length co39 : Value).ownBlock ∧ some k_ ≠ (.slice Ao61 y137.length co61 : Value).ownBlock ∧ k_ ≠ gb135 ∧ k_ ≠ gb136)) (by (with_reducible repeat (first | apply R_alloc | apply R_drewN | apply R_drew)); exact R_mono HO105.out (fun _ hk => ⟨⟨hk.1.1, ⟨hk.1.2.1, ⟨hk.1.2.2.1, ⟨hk.2, ⟨hk.1.2.2.2.2.1, hk.1.2.2.2.2.2⟩⟩⟩⟩⟩, hk.1.2.2.2.1⟩)) hg hat)
               have n2_ := Am (R_after (ok := (fun k_ => some k_ ≠ (.slice Ao25 t103.length co25 : Value).ownBlock ∧ some k_ ≠ (.slice (some ad134) y115.length co29 : Value).ownBlock ∧ some k_ ≠ (.slice Ao39 y128.length co39 : Value).ownBlock ∧ some k_ ≠ (.slice Ao61 y137.length co61 : Value).ownBlock ∧ k_ ≠ gb135 ∧ k_ ≠ gb136)) (by (with_reducible repeat (first | apply R_alloc | apply R_drewN | apply R_drew)); exact R_mono HO108.out (fun _ hk => ⟨⟨hk.1.1, ⟨hk.1.2.1, ⟨hk.1.2.2.1, ⟨hk.2, ⟨hk.1.2.2.2.2.1, hk.1.2.2.2.2.2⟩⟩⟩⟩⟩, hk.1.2.2.2.1⟩)) hg hat)
               have n3_ := Am (R_after (ok := (fun k_ => some k_ ≠ (.slice Ao25 t103.length co25 : Value).ownBlock ∧ some k_ ≠ (.slice Ao27 t106.length co27 : Value).ownBlock ∧ some k_ ≠ (.slice Ao39 y128.length co39 : Value).ownBlock ∧ some k_ ≠ (.slice Ao61 y137.length co61 : Value).ownBlock ∧ k_ ≠ gb135 ∧ k_ ≠ gb136)) (by (with_reducible repeat (first | apply R_alloc | apply R_drewN | apply R_drew)); exact R_mono HO117.out (fun _ hk => ⟨⟨hk.1.1, ⟨hk.1.2.1, ⟨hk.1.2.2.1, ⟨hk.2, ⟨hk.1.2.2.2.2.1, hk.1.2.2.2.2.2⟩⟩⟩⟩⟩, hk.1.2.2.2.1⟩)) hg hat)
               have n4_ := Am (R_after (ok := (fun k_ => some k_ ≠ (.slice Ao25 t103.length co25 : Value).ownBlock ∧ some k_ ≠ (.slice Ao27 t106.length co27 : Value).ownBlock ∧ some k_ ≠ (.slice (some ad134) y115.length co29 : Value).ownBlock ∧ some k_ ≠ (.slice Ao61 y137.length co61 : Value).ownBlock ∧ k_ ≠ gb135 ∧ k_ ≠ gb136)) (by (with_reducible repeat (first | apply R_alloc | apply R_drewN | apply R_drew)); exact R_mono HO130.out (fun _ hk => ⟨⟨hk.1.1, ⟨hk.1.2.1, ⟨hk.1.2.2.1, ⟨hk.2, ⟨hk.1.2.2.2.2.1, hk.1.2.2.2.2.2⟩⟩⟩⟩⟩, hk.1.2.2.2.1⟩)) hg hat)
               have n5_ := Am (blk_grown (g := gb135) (o := .cells #[.int .i64 ((rd_T31 y115 (ji10)).f0), .int .i64 (wrap64 (Int.tdiv ((rd_T31 y115 (ji10)).f1) 2)), .string (⟨#[]⟩ : ByteArray)] 31 (0, 0)) (by (with_reducible repeat (first | refine blk_drewN ?_ _ | refine blk_drew ?_ | refine blk_alloc ?_ _)); exact BK135.out) hg (R_away HO133.out (fun _ hk => hk.1.2.2.2.2.1)))
               have n6_ := Am (blk_grown (g := gb136) (o := .cells #[.int .i64 ((rd_T31 y115 (ji10)).f0), .int .i64 (wrap64 (((rd_T31 y115 (ji10)).f1) - (wrap64 (Int.tdiv ((rd_T31 y115 (ji10)).f1) 2)))), .string ((rd_T31 y115 (ji10)).f2)] 31 (0, 0)) (by (with_reducible repeat (first | refine blk_drewN ?_ _ | refine blk_drew ?_ | refine blk_alloc ?_ _)); exact BK136.out) hg (R_away HO133.out (fun _ hk => hk.1.2.2.2.2.2)))
               have n7_ := Am (R_after (ok := (fun k_ => some k_ ≠ (.slice Ao25 t103.length co25 : Value).ownBlock ∧ some k_ ≠ (.slice Ao27 t106.length co27 : Value).ownBlock ∧ some k_ ≠ (.slice (some ad134) y115.length co29 : Value).ownBlock ∧ some k_ ≠ (.slice Ao39 y128.length co39 : Value).ownBlock ∧ k_ ≠ gb135 ∧ k_ ≠ gb136)) (by (with_reducible repeat (first | apply R_alloc | apply R_drewN | apply R_drew)); exact R_mono HO139.out (fun _ hk => ⟨⟨hk.1.1.1.1.1.1.2, ⟨hk.1.1.1.1.1.2, ⟨hk.1.1.1.1.2, ⟨hk.1.1.1.2, ⟨hk.1.2, hk.2⟩⟩⟩⟩⟩, hk.1.1.2⟩)) hg hat)
               have n8_ := Am (hb)
               have n9_ := Am ((show Kd.C k31 w60 A57 y143.length y143 from by rw [Ny143.out, KA57.out]; exact C_drop (m := ((ji43) : Int).toNat) (c := co29) ((R_reads' (R_after (ok := (fun k_ => some k_ ≠ (.slice Ao25 t103.length co25 : Value).ownBlock ∧ some k_ ≠ (.slice Ao27 t106.length co27 : Value).ownBlock ∧ some k_ ≠ (.slice Ao39 y128.length co39 : Value).ownBlock ∧ some k_ ≠ (.slice Ao61 y137.length co61 : Value).ownBlock ∧ k_ ≠ gb135 ∧ k_ ≠ gb136)) (by (with_reducible repeat (first | apply R_alloc | apply R_drewN | apply R_drew)); exact R_mono HO117.out (fun _ hk => ⟨⟨hk.1.1, ⟨hk.1.2.1, ⟨hk.1.2.2.1, ⟨hk.2, ⟨hk.1.2.2.2.2.1, hk.1.2.2.2.2.2⟩⟩⟩⟩⟩, hk.1.2.2.2.1⟩)) hg hat)).2.2) KL57.out ((R_reads' (R_after (ok := (fun k_ => some k_ ≠ (.slice Ao25 t103.length co25 : Value).ownBlock ∧ some k_ ≠ (.slice Ao27 t106.length co27 : Value).ownBlock ∧ some k_ ≠ (.slice Ao39 y128.length co39 : Value).ownBlock ∧ some k_ ≠ (.slice Ao61 y137.length co61 : Value).ownBlock ∧ k_ ≠ gb135 ∧ k_ ≠ gb136)) (by (with_reducible repeat (first | apply R_alloc | apply R_drewN | apply R_drew)); exact R_mono HO117.out (fun _ hk => ⟨⟨hk.1.1, ⟨hk.1.2.1, ⟨hk.1.2.2.1, ⟨hk.2, ⟨hk.1.2.2.2.2.1, hk.1.2.2.2.2.2⟩⟩⟩⟩⟩, hk.1.2.2.2.1⟩)) hg hat)).2.1)))
               have n10_ := Am (ho)
               clear BK101
               clear HO105
               clear HO108
               clear HO117
               clear HO130
               clear BK135
               clear BK136
               clear HO139
               clear HB
               clear HR146
               clear HO133
               have BK101 := n0_
               have HO105 := n1_
               have HO108 := n2_
               have HO117 := n3_
               have HO130 := n4_
               have BK135 := n5_
               have BK136 := n6_
               have HO139 := n7_
               have HB := n8_
               have HR146 := n9_
               have HO142 := n10_
               clear n0_ n1_ n2_ n3_ n4_ n5_ n6_ n7_ n8_ n9_ n10_
               clear ho hb hg hat
               refine hK.out _ _ ⟨(blk_cell BK135.out 0).trans rfl, (blk_cell BK135.out 1).trans rfl, (blk_cell BK135.out 2).trans rfl, (blk_cell BK136.out 0).trans rfl, (blk_cell BK136.out 1).trans rfl, (blk_cell BK136.out 2).trans rfl⟩ (fun hHeld => ?_)
               clear hK K
               refine norm_ (a' := ?_) ?_ ?_
               rotate_left
               ·show Act.put _ (some 82) _ = _
                simp only [Act.put, List.setIfInBounds_toArray, List.set_cons_zero, List.set_cons_succ, i64_w, i32_w]
                rfl
               refine one_ (i := 9) (N := some 87) #[true, true, true, true, true, true, true, true, true, true, false] rfl rfl (one_of HT_.out (by kernel_rfl)) (by decide) (fun K hK => ?_)
               refine R_append_rows_step k31 (w0 := w) w.heap.size (by rfl) (.tmp 82) (.tmp 86) 22 31 (.agg #[(.int .i64 0), (.int .i64 0), (.string ⟨#[]⟩)]) 32 rfl Try.underlying22 info31 rfl (by decide) (by omega) v141 y140 y143 _ _ _ (fun k_ => some k_ ≠ (.slice Ao25 t103.length co25 : Value).ownBlock ∧ some k_ ≠ (.slice Ao27 t106.length co27 : Value).ownBlock ∧ some k_ ≠ (.slice (some ad134) y115.length co29 : Value).ownBlock ∧ some k_ ≠ (.slice Ao39 y128.length co39 : Value).ownBlock ∧ some k_ ≠ (.slice Ao61 y137.length co61 : Value).ownBlock ∧ k_ ≠ gb135 ∧ k_ ≠ gb136) (fun _ => False) rfl rfl ?aO ?aR (fun _ _ h => h) (fun _ h => h.elim) ?aF ?aB ?aS ?aL ?_
               (case aR => repeat (first | exact (by repeat (first | (with_reducible exact HR146.out) | (with_reducible refine C_alloc ?_ _) | (with_reducible refine C_drewN ?_ _) | (with_reducible refine C_drew ?_) | exact HR146.out)) | (with_reducible refine C_alloc ?_ _) | (with_reducible refine C_drewN ?_ _) | (with_reducible refine C_drew ?_)))
               (case aB => exact (by repeat (first | (with_reducible first | exact HB.out | apply below_alloc | apply pw_below_drewN | apply below_drew1 | refine below_set ?_ GE101.out | refine below_set ?_ GE135.out | refine below_set ?_ GE136.out) | exact HB.out)))
               (case aF => exact (fun k_ hk => ⟨Kd.fresh' (R_lt (by (with_reducible repeat (first | apply R_alloc | apply R_drewN | apply R_drew)); exact HO105.out)) k_ hk, Kd.fresh' (R_lt (by (with_reducible repeat (first | apply R_alloc | apply R_drewN | apply R_drew)); exact HO108.out)) k_ hk, Kd.fresh' (R_lt (by (with_reducible repeat (first | apply R_alloc | apply R_drewN | apply R_drew)); exact HO117.out)) k_ hk, Kd.fresh' (R_lt (by (with_reducible repeat (first | apply R_alloc | apply R_drewN | apply R_drew)); exact HO130.out)) k_ hk, Kd.fresh' (R_lt (by (with_reducible repeat (first | apply R_alloc | apply R_drewN | apply R_drew)); exact HO139.out)) k_ hk, Kd.freshB (g := gb135) (o := .cells #[.int .i64 ((rd_T31 y115 (ji10)).f0), .int .i64 (wrap64 (Int.tdiv ((rd_T31 y115 (ji10)).f1) 2)), .string (⟨#[]⟩ : ByteArray)] 31 (0, 0)) (by (with_reducible repeat (first | refine blk_drewN ?_ _ | refine blk_drew ?_ | refine blk_alloc ?_ _)); exact BK135.out) k_ hk, Kd.freshB (g := gb136) (o := .cells #[.int .i64 ((rd_T31 y115 (ji10)).f0), .int .i64 (wrap64 (((rd_T31 y115 (ji10)).f1) - (wrap64 (Int.tdiv ((rd_T31 y115 (ji10)).f1) 2)))), .string ((rd_T31 y115 (ji10)).f2)] 31 (0, 0)) (by (with_reducible repeat (first | refine blk_drewN ?_ _ | refine blk_drew ?_ | refine blk_alloc ?_ _)); exact BK136.out) k_ hk⟩))
               (case aO => exact (by (with_reducible repeat (first | apply R_alloc | apply R_drewN | apply R_drew)); exact HO142.out))
               (case aS => exact (below_size (by repeat (first | (with_reducible first | exact HB.out | apply below_alloc | apply pw_below_drewN | apply below_drew1 | refine below_set ?_ GE101.out | refine below_set ?_ GE135.out | refine below_set ?_ GE136.out) | exact HB.out))))
               (case aL => have := LMc46.out; omega)
               intro v148 w62 ho hb hg hat
               rw [← Ny147.out] at ho
               have n0_ := Am (blk_grown (g := gb101) (o := .cells #[.int .u8 a2_0, .int .u8 a2_1, .int .u8 a2_2] 29 (0, 0)) (by (with_reducible repeat (first | refine blk_drewN ?_ _ | refine blk_drew ?_ | refine blk_alloc ?_ _)); exact BK101.out) hg (R_ne HO142.out BK101.out (by decide)))
               have n1_ := Am (R_after (ok := (fun k_ => some k_ ≠ (.slice Ao27 t106.length co27 : Value).ownBlock ∧ some k_ ≠ (.slice (some ad134) y115.length co29 : Value).ownBlock ∧ some k_ ≠ (.slice Ao39 y128.length co39 : Value).ownBlock ∧ some k_ ≠ (.slice Ao61 y137.length co61 : Value).ownBlock ∧ k_ ≠ gb135 ∧ k_ ≠ gb136)) (by (with_reducible repeat (first | apply R_alloc | apply R_drewN | apply R_drew)); exact HO105.out) hg hat)
               have n2_ := Am (R_after (ok := (fun k_ => some k_ ≠ (.slice Ao25 t103.length co25 : Value).ownBlock ∧ some k_ ≠ (.slice (some ad134) y115.length co29 : Value).ownBlock ∧ some k_ ≠ (.slice Ao39 y128.length co39 : Value).ownBlock ∧ some k_ ≠ (.slice Ao61 y137.length co61 : Value).ownBlock ∧ k_ ≠ gb135 ∧ k_ ≠ gb136)) (by (with_reducible repeat (first | apply R_alloc | apply R_drewN | apply R_drew)); exact HO108.out) hg hat)
               have n3_ := Am (R_after (ok := (fun k_ => some k_ ≠ (.slice Ao25 t103.length co25 : Value).ownBlock ∧ some k_ ≠ (.slice Ao27 t106.length co27 : Value).ownBlock ∧ some k_ ≠ (.slice Ao39 y128.length co39 : Value).ownBlock ∧ some k_ ≠ (.slice Ao61 y137.length co61 : Value).ownBlock ∧ k_ ≠ gb135 ∧ k_ ≠ gb136)) (by (with_reducible repeat (first | apply R_alloc | apply R_drewN | apply R_drew)); exact HO117.out) hg hat)
               have n4_ := Am (R_after (ok := (fun k_ => some k_ ≠ (.slice Ao25 t103.length co25 : Value).ownBlock ∧ some k_ ≠ (.slice Ao27 t106.length co27 : Value).ownBlock ∧ some k_ ≠ (.slice (some ad134) y115.length co29 : Value).ownBlock ∧ some k_ ≠ (.slice Ao61 y137.length co61 : Value).ownBlock ∧ k_ ≠ gb135 ∧ k_ ≠ gb136)) (by (with_reducible repeat (first | apply R_alloc | apply R_drewN | apply R_drew)); exact HO130.out) hg hat)
               have n5_ := Am (blk_grown (g := gb135) (o := .cells #[.int .i64 ((rd_T31 y115 (ji10)).f0), .int .i64 (wrap64 (Int.tdiv ((rd_T31 y115 (ji10)).f1) 2)), .string (⟨#[]⟩ : ByteArray)] 31 (0, 0)) (by (with_reducible repeat (first | refine blk_drewN ?_ _ | refine blk_drew ?_ | refine blk_alloc ?_ _)); exact BK135.out) hg (R_away HO142.out (fun _ hk => hk.2.2.2.2.2.1)))
               have n6_ := Am (blk_grown (g := gb136) (o := .cells #[.int .i64 ((rd_T31 y115 (ji10)).f0), .int .i64 (wrap64 (((rd_T31 y115 (ji10)).f1) - (wrap64 (Int.tdiv ((rd_T31 y115 (ji10)).f1) 2)))), .string ((rd_T31 y115 (ji10)).f2)] 31 (0, 0)) (by (with_reducible repeat (first | refine blk_drewN ?_ _ | refine blk_drew ?_ | refine blk_alloc ?_ _)); exact BK136.out) hg (R_away HO142.out (fun _ hk => hk.2.2.2.2.2.2)))
               have n7_ := Am (R_after (ok := (fun k_ => some k_ ≠ (.slice Ao25 t103.length co25 : Value).ownBlock ∧ some k_ ≠ (.slice Ao27 t106.length co27 : Value).ownBlock ∧ some k_ ≠ (.slice (some ad134) y115.length co29 : Value).ownBlock ∧ some k_ ≠ (.slice Ao39 y128.length co39 : Value).ownBlock ∧ k_ ≠ gb135 ∧ k_ ≠ gb136)) (by (with_reducible repeat (first | apply R_alloc | apply R_drewN | apply R_drew)); exact HO139.out) hg hat)
               have n8_ := Am (hb)
               have n9_ := Am ((show Kd.C k31 w62 A57 y143.length y143 from by rw [Ny143.out, KA57.out]; exact C_drop (m := ((ji43) : Int).toNat) (c := co29) ((R_reads' (R_after (ok := (fun k_ => some k_ ≠ (.slice Ao25 t103.length co25 : Value).ownBlock ∧ some k_ ≠ (.slice Ao27 t106.length co27 : Value).ownBlock ∧ some k_ ≠ (.slice Ao39 y128.length co39 : Value).ownBlock ∧ some k_ ≠ (.slice Ao61 y137.length co61 : Value).ownBlock ∧ k_ ≠ gb135 ∧ k_ ≠ gb136)) (by (with_reducible repeat (first | apply R_alloc | apply R_drewN | apply R_drew)); exact HO117.out) hg hat)).2.2) KL57.out ((R_reads' (R_after (ok := (fun k_ => some k_ ≠ (.slice Ao25 t103.length co25 : Value).ownBlock ∧ some k_ ≠ (.slice Ao27 t106.length co27 : Value).ownBlock ∧ some k_ ≠ (.slice Ao39 y128.length co39 : Value).ownBlock ∧ some k_ ≠ (.slice Ao61 y137.length co61 : Value).ownBlock ∧ k_ ≠ gb135 ∧ k_ ≠ gb136)) (by (with_reducible repeat (first | apply R_alloc | apply R_drewN | apply R_drew)); exact HO117.out) hg hat)).2.1)))
               have n10_ := Am (ho)
               clear BK101
               clear HO105
               clear HO108
               clear HO117
               clear HO130
               clear BK135
               clear BK136
               clear HO139
               clear HB
               clear HR146
               clear HO142
               have BK101 := n0_
               have HO105 := n1_
               have HO108 := n2_
               have HO117 := n3_
               have HO130 := n4_
               have BK135 := n5_
               have BK136 := n6_
               have HO139 := n7_
               have HB := n8_
               have HR146 := n9_
               have HO149 := n10_
               clear n0_ n1_ n2_ n3_ n4_ n5_ n6_ n7_ n8_ n9_ n10_
               clear ho hb hg hat
               refine hK.out _ _ ⟨(blk_cell BK135.out 0).trans rfl, (blk_cell BK135.out 1).trans rfl, (blk_cell BK135.out 2).trans rfl, (blk_cell BK136.out 0).trans rfl, (blk_cell BK136.out 1).trans rfl, (blk_cell BK136.out 2).trans rfl⟩ (fun hHeld => ?_)
               clear hK K
               refine norm_ (a' := ?_) ?_ ?_
               rotate_left
               ·show Act.put _ (some 87) _ = _
                simp only [Act.put, List.setIfInBounds_toArray, List.set_cons_zero, List.set_cons_succ, i64_w, i32_w]
                rfl
               refine pure_ (i := 10) (N := some 12) (v := ?_) (a' := ?_) #[true, true, true, true, true, true, true, true, true, true, true] rfl rfl (any_of HT_.out (by kernel_rfl)) (fun _ _ _ h => h) (Or.inl ⟨by rfl, ?_⟩) ?_ ?_
               rotate_left
               ·intro w'
                go_simp
                with_reducible rfl
               rotate_left
               ·simp only [Act.put, List.setIfInBounds_toArray, List.set_cons_zero, List.set_cons_succ, i64_w, i32_w]
                rfl
               refine done_ (done_of HT_.out (by kernel_rfl)) ?_
               try go_wp2
               go_meet
               case rel => exact ⟨_, (y147), H', ⟨by first | omega | exact Nat.le_refl _⟩, ⟨by (with_reducible repeat (first | apply R_alloc | apply R_drewN | apply R_drew)); exact R_mono HO105.out (fun _ hk => ⟨hk.1.1, ⟨hk.1.2.1, hk.2⟩⟩)⟩, ⟨by (with_reducible repeat (first | apply R_alloc | apply R_drewN | apply R_drew)); exact R_mono HO108.out (fun _ hk => ⟨hk.1.1, ⟨hk.1.2.1, hk.2⟩⟩)⟩, ⟨by (with_reducible repeat (first | apply R_alloc | apply R_drewN | apply R_drew)); exact R_mono HO117.out (fun _ hk => ⟨hk.1.1, ⟨hk.1.2.1, hk.2⟩⟩)⟩, ⟨by (with_reducible repeat (first | apply R_alloc | apply R_drewN | apply R_drew)); exact R_mono HO149.out (fun _ hk => ⟨hk.1, ⟨hk.2.1, hk.2.2.1⟩⟩)⟩, ⟨by (with_reducible repeat (first | refine blk_drewN ?_ _ | refine blk_drew ?_ | refine blk_alloc ?_ _)); exact BK101.out⟩, ⟨by repeat (first | (with_reducible first | exact HB.out | apply below_alloc | apply pw_below_drewN | apply below_drew1 | refine below_set ?_ GE101.out | refine below_set ?_ GE135.out | refine below_set ?_ GE136.out) | exact HB.out)⟩⟩
              ·rw [if_neg c46] at H
               exact absurd H (by simp)
             ·rw [if_neg c45] at H
              exact absurd H (by simp)
            ·rw [if_neg c44] at H
             exact absurd H (by simp)
           ·rw [if_neg c42] at H
            exact absurd H (by simp)
          ·rw [if_neg c41] at H
           have c41b0 : (((rd_T31 y115 (ji10)).f0) == 2) = false := beq_eq_false_iff_ne.mpr c41
           have c41b1 : (((rd_T31 y115 (ji10)).f0) != 2) = true := bne_iff_ne.mpr c41
           obtain ⟨y150, hy150⟩ : ∃ y_ : List (S31), y_ = (([(⟨(rd_T31 y115 (ji10)).f0, wrap64 (Int.tdiv ((rd_T31 y115 (ji10)).f1) 2), (rd_T31 y115 (ji10)).f2⟩ : S31), (⟨(rd_T31 y115 (ji10)).f0, wrap64 (((rd_T31 y115 (ji10)).f1) - (wrap64 (Int.tdiv ((rd_T31 y115 (ji10)).f1) 2))), (rd_T31 y115 (ji10)).f2⟩ : S31)] : List (S31))) := ⟨_, rfl⟩
           replace H : (if y131.length + y150.length < 4398046511104 then ((some (y131 ++ y150 : List (S31))).bind fun y153 => (if 0 ≤ (wrap64 ((ji10) + 1)) then (if (wrap64 ((ji10) + 1)) ≤ (y115.length : Int) then ((some (y115.drop ((wrap64 ((ji10) + 1)) : Int).toNat : List (S31))).bind fun y156 => (if y153.length + y156.length < 4398046511104 then (epitomelaw05_NormalParts.j0 k t102 t103 t106 y115 (y153 ++ y156)) else (none))) else (none)) else (none))) else (none)) = some r := by first | (rw [hy150]; with_reducible exact H) | (have H2_ := (Option.bind_some _ _).symm.trans H; rw [hy150]; with_reducible exact H2_) | (have H2_ := (Option.bind_some _ _).symm.trans H; with_reducible exact H2_) | with_reducible exact H | (rw [hy150]; exact H) | exact H
           have Ny150 := Am hy150
           clear hy150
           by_cases c63 : y131.length + y150.length < 4398046511104
           ·rw [if_pos c63] at H
            have LMc63 := Am c63
            clear c63
            obtain ⟨y153, hy153⟩ : ∃ y_ : List (S31), y_ = (y131 ++ y150) := ⟨_, rfl⟩
            replace H : (if 0 ≤ (wrap64 ((ji10) + 1)) then (if (wrap64 ((ji10) + 1)) ≤ (y115.length : Int) then ((some (y115.drop ((wrap64 ((ji10) + 1)) : Int).toNat : List (S31))).bind fun y156 => (if y153.length + y156.length < 4398046511104 then (epitomelaw05_NormalParts.j0 k t102 t103 t106 y115 (y153 ++ y156)) else (none))) else (none)) else (none)) = some r := by first | (rw [hy153]; with_reducible exact H) | (have H2_ := (Option.bind_some _ _).symm.trans H; rw [hy153]; with_reducible exact H2_) | (have H2_ := (Option.bind_some _ _).symm.trans H; with_reducible exact H2_) | with_reducible exact H | (rw [hy153]; exact H) | exact H
            have Ny153 := Am hy153
            clear hy153
            obtain ⟨ji64, hji64⟩ : ∃ j_ : Int, (wrap64 ((ji10) + 1)) = j_ := ⟨_, rfl⟩
            replace H : (if 0 ≤ (ji64) then (if (ji64) ≤ (y115.length : Int) then ((some (y115.drop ((ji64) : Int).toNat : List (S31))).bind fun y156 => (if y153.length + y156.length < 4398046511104 then (epitomelaw05_NormalParts.j0 k t102 t103 t106 y115 (y153 ++ y156)) else (none))) else (none)) else (none)) = some r := by first | (rw [hji64] at H; exact H) | (simp only [hji64] at H ⊢; exact H)
            have hji64w : (IntKind.i64.wrap ((ji10) + 1)) = ji64 := (i64_w _).trans hji64
            by_cases c65 : 0 ≤ (ji64)
            ·rw [if_pos c65] at H
             have c65b0 := eq_true c65
             have c65b1 : decide (0 ≤ (ji64)) = true := decide_eq_true c65
             clear c65
             by_cases c66 : (ji64) ≤ (y115.length : Int)
             ·rw [if_pos c66] at H
              have c66b0 := eq_true c66
              have c66b1 : decide ((ji64) ≤ (y115.length : Int)) = true := decide_eq_true c66
              clear c66
              obtain ⟨y156, hy156⟩ : ∃ y_ : List (S31), y_ = (y115.drop ((ji64) : Int).toNat) := ⟨_, rfl⟩
              replace H : (if y153.length + y156.length < 4398046511104 then (epitomelaw05_NormalParts.j0 k t102 t103 t106 y115 (y153 ++ y156)) else (none)) = some r := by first | (rw [hy156]; with_reducible exact H) | (have H2_ := (Option.bind_some _ _).symm.trans H; rw [hy156]; with_reducible exact H2_) | (have H2_ := (Option.bind_some _ _).symm.trans H; with_reducible exact H2_) | with_reducible exact H | (rw [hy156]; exact H) | exact H
              have Ny156 := Am hy156
              clear hy156
              by_cases c67 : y153.length + y156.length < 4398046511104
              ·rw [if_pos c67] at H
               have LMc67 := Am c67
               clear c67
               obtain ⟨y160, hy160⟩ : ∃ y_ : List (S31), y_ = (y153 ++ y156) := ⟨_, rfl⟩
               replace H : (epitomelaw05_NormalParts.j0 k t102 t103 t106 y115 y160) = some r := by first | (rw [hy160]; with_reducible exact H) | (have H2_ := (Option.bind_some _ _).symm.trans H; rw [hy160]; with_reducible exact H2_) | (have H2_ := (Option.bind_some _ _).symm.trans H; with_reducible exact H2_) | with_reducible exact H | (rw [hy160]; exact H) | exact H
               have Ny160 := Am hy160
               clear hy160
               have H' := Am H
               clear H
               have p134 : 0 ≤ ((ji10) : Int) := of_decide_eq_true (by first | (with_reducible assumption) | assumption)
               have q134 : (ji10) < (y115.length : Int) := of_decide_eq_true (by first | (with_reducible assumption) | assumption)
               obtain ⟨ad134, e134, hx134_0, hx134_1, hx134_2⟩ := at_T31 (R_reads' HO117.out).2.2 (ji10) p134 q134
               cases e134
               replace p134 := eq_true p134
               replace q134 := eq_true q134
               try go_wp2_with (first | ((with_reducible refine gate_dst (N := 13) rfl ?_); (try (refine gate_guard (by rfl) ?_; dsimp only)); refine box_event ?hg (N := 13) ?hd (cs := #[.int .i64 0, .int .i64 0, .string (⟨#[]⟩ : ByteArray)]) (t := 31) ?hr ?_; (case hd => rfl); (case hg => rfl); (case hr => first | (go_simp; done) | (go_simp; rfl)); intro gb135 hg w68 hbox hb; have n0_ := Am (R_below (R_elderB (by (with_reducible repeat (first | apply R_alloc | apply R_drewN | apply R_drew)); exact HO105.out) gb135 (Nat.le_of_eq hg.symm)) hb); have n1_ := Am (R_below (R_elderB (by (with_reducible repeat (first | apply R_alloc | apply R_drewN | apply R_drew)); exact HO108.out) gb135 (Nat.le_of_eq hg.symm)) hb); have n2_ := Am (R_below (R_elderB (by (with_reducible repeat (first | apply R_alloc | apply R_drewN | apply R_drew)); exact HO117.out) gb135 (Nat.le_of_eq hg.symm)) hb); have n3_ := Am (R_below (R_elderB (by (with_reducible repeat (first | apply R_alloc | apply R_drewN | apply R_drew)); exact HO130.out) gb135 (Nat.le_of_eq hg.symm)) hb); have n4_ := Am (R_below (R_elderB (by (with_reducible repeat (first | apply R_alloc | apply R_drewN | apply R_drew)); exact HO133.out) gb135 (Nat.le_of_eq hg.symm)) hb); have n5_ := Am (blk_below (g := gb101) (o := .cells #[.int .u8 a2_0, .int .u8 a2_1, .int .u8 a2_2] 29 (0, 0)) (by (with_reducible repeat (first | refine blk_drewN ?_ _ | refine blk_drew ?_ | refine blk_alloc ?_ _)); exact BK101.out) hb); have n6_ := Am (below_step (by repeat (first | (with_reducible first | exact HB.out | apply below_alloc | apply pw_below_drewN | apply below_drew1 | refine below_set ?_ GE101.out) | exact HB.out)) hb); have n7_ := Am (hbox); have n8_ := Am ((by rw [hg]; exact (below_size (by repeat (first | (with_reducible first | exact HB.out | apply below_alloc | apply pw_below_drewN | apply below_drew1 | refine below_set ?_ GE101.out) | exact HB.out))) : w.heap.size ≤ gb135)); have n9_ := Am ((by rw [hg]; exact (below_size (by repeat (first | (with_reducible first | exact HB.out | apply below_alloc | apply pw_below_drewN | apply below_drew1 | refine below_set ?_ GE101.out) | exact HB.out))) : w.heap.size ≤ gb135)); have n10_ := Am ((by rw [hg]; exact Nat.ne_of_lt (blk_lt (g := gb101) (o := .cells #[.int .u8 a2_0, .int .u8 a2_1, .int .u8 a2_2] 29 (0, 0)) (by (with_reducible repeat (first | refine blk_drewN ?_ _ | refine blk_drew ?_ | refine blk_alloc ?_ _)); exact BK101.out)) : gb101 ≠ gb135)); have n11_ := Am ((by rw [hg]; exact Nat.ne_of_gt (blk_lt (g := gb101) (o := .cells #[.int .u8 a2_0, .int .u8 a2_1, .int .u8 a2_2] 29 (0, 0)) (by (with_reducible repeat (first | refine blk_drewN ?_ _ | refine blk_drew ?_ | refine blk_alloc ?_ _)); exact BK101.out)) : gb135 ≠ gb101)); clear HO105; clear HO108; clear HO117; clear HO130; clear HO133; clear BK101; clear HB; have HO105 := n0_; have HO108 := n1_; have HO117 := n2_; have HO130 := n3_; have HO133 := n4_; have BK101 := n5_; have HB := n6_; have BK135 := n7_; have GW135 := n8_; have GE135 := n9_; have NB101_135 := n10_; have NB135_101 := n11_; clear n0_ n1_ n2_ n3_ n4_ n5_ n6_ n7_ n8_ n9_ n10_ n11_; clear hb hbox hg; have hnb69 := NB135_101.out; have hnc69 := NB101_135.out; have hcz70_0 : w68.cell? ⟨gb135, 0, none⟩ = some (.int .i64 0) := (blk_cell BK135.out 0).trans rfl; have hcz70_1 : w68.cell? ⟨gb135, 1, none⟩ = some (.int .i64 0) := (blk_cell BK135.out 1).trans rfl; have hcz70_2 : w68.cell? ⟨gb135, 2, none⟩ = some (.string (⟨#[]⟩ : ByteArray)) := (blk_cell BK135.out 2).trans rfl; have hfz70_0 := blk_frozen BK135.out 0; have hfz70_1 := blk_frozen BK135.out 1; have hfz70_2 := blk_frozen BK135.out 2) | ((with_reducible refine gate_dst (N := 14) rfl ?_); (try (refine gate_guard (by rfl) ?_; dsimp only)); refine box_event ?hg (N := 14) ?hd (cs := #[.int .i64 0, .int .i64 0, .string (⟨#[]⟩ : ByteArray)]) (t := 31) ?hr ?_; (case hd => rfl); (case hg => rfl); (case hr => first | (go_simp; done) | (go_simp; rfl)); intro gb136 hg w71 hbox hb; have n0_ := Am (R_below (R_elderB (by (with_reducible repeat (first | apply R_alloc | apply R_drewN | apply R_drew)); exact (R_mono (R_far (p := ⟨gb135, 2, none⟩) (R_far (p := ⟨gb135, 1, none⟩) (R_far (p := ⟨gb135, 0, none⟩) (R_mono HO105.out (fun k_ hk => (⟨hk, hk.2⟩ : _ ∧ k_ ≠ gb135))) (fun _ hk => hk.2) (.int .i64 ((rd_T31 y115 (ji10)).f0))) (fun _ hk => hk.2) (.int .i64 ((rd_T31 y115 (ji10)).f1))) (fun _ hk => hk.2) (.string ((rd_T31 y115 (ji10)).f2))) (fun _ h_ => h_.1))) gb136 (Nat.le_of_eq hg.symm)) hb); have n1_ := Am (R_below (R_elderB (by (with_reducible repeat (first | apply R_alloc | apply R_drewN | apply R_drew)); exact (R_mono (R_far (p := ⟨gb135, 2, none⟩) (R_far (p := ⟨gb135, 1, none⟩) (R_far (p := ⟨gb135, 0, none⟩) (R_mono HO108.out (fun k_ hk => (⟨hk, hk.2⟩ : _ ∧ k_ ≠ gb135))) (fun _ hk => hk.2) (.int .i64 ((rd_T31 y115 (ji10)).f0))) (fun _ hk => hk.2) (.int .i64 ((rd_T31 y115 (ji10)).f1))) (fun _ hk => hk.2) (.string ((rd_T31 y115 (ji10)).f2))) (fun _ h_ => h_.1))) gb136 (Nat.le_of_eq hg.symm)) hb); have n2_ := Am (R_below (R_elderB (by (with_reducible repeat (first | apply R_alloc | apply R_drewN | apply R_drew)); exact (R_mono (R_far (p := ⟨gb135, 2, none⟩) (R_far (p := ⟨gb135, 1, none⟩) (R_far (p := ⟨gb135, 0, none⟩) (R_mono HO117.out (fun k_ hk => (⟨hk, hk.2⟩ : _ ∧ k_ ≠ gb135))) (fun _ hk => hk.2) (.int .i64 ((rd_T31 y115 (ji10)).f0))) (fun _ hk => hk.2) (.int .i64 ((rd_T31 y115 (ji10)).f1))) (fun _ hk => hk.2) (.string ((rd_T31 y115 (ji10)).f2))) (fun _ h_ => h_.1))) gb136 (Nat.le_of_eq hg.symm)) hb); have n3_ := Am (R_below (R_elderB (by (with_reducible repeat (first | apply R_alloc | apply R_drewN | apply R_drew)); exact (R_mono (R_far (p := ⟨gb135, 2, none⟩) (R_far (p := ⟨gb135, 1, none⟩) (R_far (p := ⟨gb135, 0, none⟩) (R_mono HO130.out (fun k_ hk => (⟨hk, hk.2⟩ : _ ∧ k_ ≠ gb135))) (fun _ hk => hk.2) (.int .i64 ((rd_T31 y115 (ji10)).f0))) (fun _ hk => hk.2) (.int .i64 ((rd_T31 y115 (ji10)).f1))) (fun _ hk => hk.2) (.string ((rd_T31 y115 (ji10)).f2))) (fun _ h_ => h_.1))) gb136 (Nat.le_of_eq hg.symm)) hb); have n4_ := Am (R_below (R_elderB (by (with_reducible repeat (first | apply R_alloc | apply R_drewN | apply R_drew)); exact (R_mono (R_far (p := ⟨gb135, 2, none⟩) (R_far (p := ⟨gb135, 1, none⟩) (R_far (p := ⟨gb135, 0, none⟩) (R_mono HO133.out (fun k_ hk => (⟨hk, hk.2⟩ : _ ∧ k_ ≠ gb135))) (fun _ hk => hk.2) (.int .i64 ((rd_T31 y115 (ji10)).f0))) (fun _ hk => hk.2) (.int .i64 ((rd_T31 y115 (ji10)).f1))) (fun _ hk => hk.2) (.string ((rd_T31 y115 (ji10)).f2))) (fun _ h_ => h_.1))) gb136 (Nat.le_of_eq hg.symm)) hb); have n5_ := Am (blk_below (g := gb101) (o := .cells #[.int .u8 a2_0, .int .u8 a2_1, .int .u8 a2_2] 29 (0, 0)) (by (with_reducible repeat (first | refine blk_drewN ?_ _ | refine blk_drew ?_ | refine blk_alloc ?_ _)); refine blk_far ?_ NB101_135.out _; (with_reducible repeat (first | refine blk_drewN ?_ _ | refine blk_drew ?_ | refine blk_alloc ?_ _)); refine blk_far ?_ NB101_135.out _; (with_reducible repeat (first | refine blk_drewN ?_ _ | refine blk_drew ?_ | refine blk_alloc ?_ _)); refine blk_far ?_ NB101_135.out _; (with_reducible repeat (first | refine blk_drewN ?_ _ | refine blk_drew ?_ | refine blk_alloc ?_ _)); exact BK101.out) hb); have n6_ := Am (blk_below (g := gb135) (o := .cells #[.int .i64 ((rd_T31 y115 (ji10)).f0), .int .i64 ((rd_T31 y115 (ji10)).f1), .string ((rd_T31 y115 (ji10)).f2)] 31 (0, 0)) (by (with_reducible repeat (first | refine blk_drewN ?_ _ | refine blk_drew ?_ | refine blk_alloc ?_ _)); refine blk_put (cs := #[.int .i64 ((rd_T31 y115 (ji10)).f0), .int .i64 ((rd_T31 y115 (ji10)).f1), .string (⟨#[]⟩ : ByteArray)]) ?_ 2 _ rfl; (with_reducible repeat (first | refine blk_drewN ?_ _ | refine blk_drew ?_ | refine blk_alloc ?_ _)); refine blk_put (cs := #[.int .i64 ((rd_T31 y115 (ji10)).f0), .int .i64 0, .string (⟨#[]⟩ : ByteArray)]) ?_ 1 _ rfl; (with_reducible repeat (first | refine blk_drewN ?_ _ | refine blk_drew ?_ | refine blk_alloc ?_ _)); refine blk_put (cs := #[.int .i64 0, .int .i64 0, .string (⟨#[]⟩ : ByteArray)]) ?_ 0 _ rfl; (with_reducible repeat (first | refine blk_drewN ?_ _ | refine blk_drew ?_ | refine blk_alloc ?_ _)); exact BK135.out) hb); have n7_ := Am (below_step (by repeat (first | (with_reducible first | exact HB.out | apply below_alloc | apply pw_below_drewN | apply below_drew1 | refine below_set ?_ GE101.out | refine below_set ?_ GE135.out) | exact HB.out)) hb); have n8_ := Am (hbox); have n9_ := Am ((by rw [hg]; exact (below_size (by repeat (first | (with_reducible first | exact HB.out | apply below_alloc | apply pw_below_drewN | apply below_drew1 | refine below_set ?_ GE101.out | refine below_set ?_ GE135.out) | exact HB.out))) : w.heap.size ≤ gb136)); have n10_ := Am ((by rw [hg]; exact (below_size (by repeat (first | (with_reducible first | exact HB.out | apply below_alloc | apply pw_below_drewN | apply below_drew1 | refine below_set ?_ GE101.out | refine below_set ?_ GE135.out) | exact HB.out))) : w.heap.size ≤ gb136)); have n11_ := Am ((by rw [hg]; exact Nat.ne_of_lt (blk_lt (g := gb101) (o := .cells #[.int .u8 a2_0, .int .u8 a2_1, .int .u8 a2_2] 29 (0, 0)) (by (with_reducible repeat (first | refine blk_drewN ?_ _ | refine blk_drew ?_ | refine blk_alloc ?_ _)); refine blk_far ?_ NB101_135.out _; (with_reducible repeat (first | refine blk_drewN ?_ _ | refine blk_drew ?_ | refine blk_alloc ?_ _)); refine blk_far ?_ NB101_135.out _; (with_reducible repeat (first | refine blk_drewN ?_ _ | refine blk_drew ?_ | refine blk_alloc ?_ _)); refine blk_far ?_ NB101_135.out _; (with_reducible repeat (first | refine blk_drewN ?_ _ | refine blk_drew ?_ | refine blk_alloc ?_ _)); exact BK101.out)) : gb101 ≠ gb136)); have n12_ := Am ((by rw [hg]; exact Nat.ne_of_gt (blk_lt (g := gb101) (o := .cells #[.int .u8 a2_0, .int .u8 a2_1, .int .u8 a2_2] 29 (0, 0)) (by (with_reducible repeat (first | refine blk_drewN ?_ _ | refine blk_drew ?_ | refine blk_alloc ?_ _)); refine blk_far ?_ NB101_135.out _; (with_reducible repeat (first | refine blk_drewN ?_ _ | refine blk_drew ?_ | refine blk_alloc ?_ _)); refine blk_far ?_ NB101_135.out _; (with_reducible repeat (first | refine blk_drewN ?_ _ | refine blk_drew ?_ | refine blk_alloc ?_ _)); refine blk_far ?_ NB101_135.out _; (with_reducible repeat (first | refine blk_drewN ?_ _ | refine blk_drew ?_ | refine blk_alloc ?_ _)); exact BK101.out)) : gb136 ≠ gb101)); have n13_ := Am ((by rw [hg]; exact Nat.ne_of_lt (blk_lt (g := gb135) (o := .cells #[.int .i64 ((rd_T31 y115 (ji10)).f0), .int .i64 ((rd_T31 y115 (ji10)).f1), .string ((rd_T31 y115 (ji10)).f2)] 31 (0, 0)) (by (with_reducible repeat (first | refine blk_drewN ?_ _ | refine blk_drew ?_ | refine blk_alloc ?_ _)); refine blk_put (cs := #[.int .i64 ((rd_T31 y115 (ji10)).f0), .int .i64 ((rd_T31 y115 (ji10)).f1), .string (⟨#[]⟩ : ByteArray)]) ?_ 2 _ rfl; (with_reducible repeat (first | refine blk_drewN ?_ _ | refine blk_drew ?_ | refine blk_alloc ?_ _)); refine blk_put (cs := #[.int .i64 ((rd_T31 y115 (ji10)).f0), .int .i64 0, .string (⟨#[]⟩ : ByteArray)]) ?_ 1 _ rfl; (with_reducible repeat (first | refine blk_drewN ?_ _ | refine blk_drew ?_ | refine blk_alloc ?_ _)); refine blk_put (cs := #[.int .i64 0, .int .i64 0, .string (⟨#[]⟩ : ByteArray)]) ?_ 0 _ rfl; (with_reducible repeat (first | refine blk_drewN ?_ _ | refine blk_drew ?_ | refine blk_alloc ?_ _)); exact BK135.out)) : gb135 ≠ gb136)); have n14_ := Am ((by rw [hg]; exact Nat.ne_of_gt (blk_lt (g := gb135) (o := .cells #[.int .i64 ((rd_T31 y115 (ji10)).f0), .int .i64 ((rd_T31 y115 (ji10)).f1), .string ((rd_T31 y115 (ji10)).f2)] 31 (0, 0)) (by (with_reducible repeat (first | refine blk_drewN ?_ _ | refine blk_drew ?_ | refine blk_alloc ?_ _)); refine blk_put (cs := #[.int .i64 ((rd_T31 y115 (ji10)).f0), .int .i64 ((rd_T31 y115 (ji10)).f1), .string (⟨#[]⟩ : ByteArray)]) ?_ 2 _ rfl; (with_reducible repeat (first | refine blk_drewN ?_ _ | refine blk_drew ?_ | refine blk_alloc ?_ _)); refine blk_put (cs := #[.int .i64 ((rd_T31 y115 (ji10)).f0), .int .i64 0, .string (⟨#[]⟩ : ByteArray)]) ?_ 1 _ rfl; (with_reducible repeat (first | refine blk_drewN ?_ _ | refine blk_drew ?_ | refine blk_alloc ?_ _)); refine blk_put (cs := #[.int .i64 0, .int .i64 0, .string (⟨#[]⟩ : ByteArray)]) ?_ 0 _ rfl; (with_reducible repeat (first | refine blk_drewN ?_ _ | refine blk_drew ?_ | refine blk_alloc ?_ _)); exact BK135.out)) : gb136 ≠ gb135)); clear HO105; clear HO108; clear HO117; clear HO130; clear HO133; clear BK101; clear BK135; clear HB; have HO105 := n0_; have HO108 := n1_; have HO117 := n2_; have HO130 := n3_; have HO133 := n4_; have BK101 := n5_; have BK135 := n6_; have HB := n7_; have BK136 := n8_; have GW136 := n9_; have GE136 := n10_; have NB101_136 := n11_; have NB136_101 := n12_; have NB135_136 := n13_; have NB136_135 := n14_; clear n0_ n1_ n2_ n3_ n4_ n5_ n6_ n7_ n8_ n9_ n10_ n11_ n12_ n13_ n14_; clear hb hbox hg; have hnb72 := NB136_101.out; have hnc72 := NB101_136.out; have hnb73 := NB136_135.out; have hnc73 := NB135_136.out; have hcz74_0 : w71.cell? ⟨gb136, 0, none⟩ = some (.int .i64 0) := (blk_cell BK136.out 0).trans rfl; have hcz74_1 : w71.cell? ⟨gb136, 1, none⟩ = some (.int .i64 0) := (blk_cell BK136.out 1).trans rfl; have hcz74_2 : w71.cell? ⟨gb136, 2, none⟩ = some (.string (⟨#[]⟩ : ByteArray)) := (blk_cell BK136.out 2).trans rfl; have hfz74_0 := blk_frozen BK136.out 0; have hfz74_1 := blk_frozen BK136.out 1; have hfz74_2 := blk_frozen BK136.out 2; have hcz75_0 : w71.cell? ⟨gb135, 0, none⟩ = some (.int .i64 ((rd_T31 y115 (ji10)).f0)) := (blk_cell BK135.out 0).trans rfl; have hcz75_1 : w71.cell? ⟨gb135, 1, none⟩ = some (.int .i64 ((rd_T31 y115 (ji10)).f1)) := (blk_cell BK135.out 1).trans rfl; have hcz75_2 : w71.cell? ⟨gb135, 2, none⟩ = some (.string ((rd_T31 y115 (ji10)).f2)) := (blk_cell BK135.out 2).trans rfl; have hfz75_0 := blk_frozen BK135.out 0; have hfz75_1 := blk_frozen BK135.out 1; have hfz75_2 := blk_frozen BK135.out 2))
               have n0_ : Aside0 (Kd.R k31 31 (((((w71.setCell ⟨gb136, 0, none⟩ (.int .i64 ((rd_T31 y115 (ji10)).f0))).setCell ⟨gb136, 1, none⟩ (.int .i64 ((rd_T31 y115 (ji10)).f1))).setCell ⟨gb136, 2, none⟩ (.string ((rd_T31 y115 (ji10)).f2))).setCell ⟨gb136, 1, none⟩ (.int .i64 (wrap64 (((rd_T31 y115 (ji10)).f1) - (wrap64 (Int.tdiv ((rd_T31 y115 (ji10)).f1) 2)))))).setCell ⟨gb135, 1, none⟩ (.int .i64 (wrap64 (Int.tdiv ((rd_T31 y115 (ji10)).f1) 2)))) w.heap.size (fun k_ => some k_ ≠ (.slice Ao27 t106.length co27 : Value).ownBlock ∧ some k_ ≠ (.slice (some ad134) y115.length co29 : Value).ownBlock ∧ some k_ ≠ (.slice Ao39 y128.length co39 : Value).ownBlock ∧ some k_ ≠ (v132 : Value).ownBlock ∧ k_ ≠ gb135 ∧ k_ ≠ gb136) (.slice Ao25 t103.length co25) t103) := ⟨by (with_reducible repeat (first | apply R_alloc | apply R_drewN | apply R_drew)); exact R_mono (R_far (p := ⟨gb135, 1, none⟩) (R_far (p := ⟨gb136, 1, none⟩) (R_far (p := ⟨gb136, 2, none⟩) (R_far (p := ⟨gb136, 1, none⟩) (R_far (p := ⟨gb136, 0, none⟩) (R_mono (R_mono HO105.out (fun k_ hk => (⟨hk, hk.2⟩ : _ ∧ k_ ≠ gb136))) (fun k_ hk => (⟨hk, hk.1.1.2⟩ : _ ∧ k_ ≠ gb135))) (fun _ hk => hk.1.2) (.int .i64 ((rd_T31 y115 (ji10)).f0))) (fun _ hk => hk.1.2) (.int .i64 ((rd_T31 y115 (ji10)).f1))) (fun _ hk => hk.1.2) (.string ((rd_T31 y115 (ji10)).f2))) (fun _ hk => hk.1.2) (.int .i64 (wrap64 (((rd_T31 y115 (ji10)).f1) - (wrap64 (Int.tdiv ((rd_T31 y115 (ji10)).f1) 2)))))) (fun _ hk => hk.2) (.int .i64 (wrap64 (Int.tdiv ((rd_T31 y115 (ji10)).f1) 2)))) (fun _ hk => ⟨hk.1.1.1.1.1.1, ⟨hk.1.1.1.1.1.2.1, ⟨hk.1.1.1.1.1.2.2, ⟨hk.1.1.1.1.2, ⟨hk.1.1.1.2, hk.1.1.2⟩⟩⟩⟩⟩)⟩
               have n1_ : Aside0 (Kd.R k31 31 (((((w71.setCell ⟨gb136, 0, none⟩ (.int .i64 ((rd_T31 y115 (ji10)).f0))).setCell ⟨gb136, 1, none⟩ (.int .i64 ((rd_T31 y115 (ji10)).f1))).setCell ⟨gb136, 2, none⟩ (.string ((rd_T31 y115 (ji10)).f2))).setCell ⟨gb136, 1, none⟩ (.int .i64 (wrap64 (((rd_T31 y115 (ji10)).f1) - (wrap64 (Int.tdiv ((rd_T31 y115 (ji10)).f1) 2)))))).setCell ⟨gb135, 1, none⟩ (.int .i64 (wrap64 (Int.tdiv ((rd_T31 y115 (ji10)).f1) 2)))) w.heap.size (fun k_ => some k_ ≠ (.slice Ao25 t103.length co25 : Value).ownBlock ∧ some k_ ≠ (.slice (some ad134) y115.length co29 : Value).ownBlock ∧ some k_ ≠ (.slice Ao39 y128.length co39 : Value).ownBlock ∧ some k_ ≠ (v132 : Value).ownBlock ∧ k_ ≠ gb135 ∧ k_ ≠ gb136) (.slice Ao27 t106.length co27) t106) := ⟨by (with_reducible repeat (first | apply R_alloc | apply R_drewN | apply R_drew)); exact R_mono (R_far (p := ⟨gb135, 1, none⟩) (R_far (p := ⟨gb136, 1, none⟩) (R_far (p := ⟨gb136, 2, none⟩) (R_far (p := ⟨gb136, 1, none⟩) (R_far (p := ⟨gb136, 0, none⟩) (R_mono (R_mono HO108.out (fun k_ hk => (⟨hk, hk.2⟩ : _ ∧ k_ ≠ gb136))) (fun k_ hk => (⟨hk, hk.1.1.2⟩ : _ ∧ k_ ≠ gb135))) (fun _ hk => hk.1.2) (.int .i64 ((rd_T31 y115 (ji10)).f0))) (fun _ hk => hk.1.2) (.int .i64 ((rd_T31 y115 (ji10)).f1))) (fun _ hk => hk.1.2) (.string ((rd_T31 y115 (ji10)).f2))) (fun _ hk => hk.1.2) (.int .i64 (wrap64 (((rd_T31 y115 (ji10)).f1) - (wrap64 (Int.tdiv ((rd_T31 y115 (ji10)).f1) 2)))))) (fun _ hk => hk.2) (.int .i64 (wrap64 (Int.tdiv ((rd_T31 y115 (ji10)).f1) 2)))) (fun _ hk => ⟨hk.1.1.1.1.1.1, ⟨hk.1.1.1.1.1.2.1, ⟨hk.1.1.1.1.1.2.2, ⟨hk.1.1.1.1.2, ⟨hk.1.1.1.2, hk.1.1.2⟩⟩⟩⟩⟩)⟩
               have n2_ : Aside0 (Kd.R k31 31 (((((w71.setCell ⟨gb136, 0, none⟩ (.int .i64 ((rd_T31 y115 (ji10)).f0))).setCell ⟨gb136, 1, none⟩ (.int .i64 ((rd_T31 y115 (ji10)).f1))).setCell ⟨gb136, 2, none⟩ (.string ((rd_T31 y115 (ji10)).f2))).setCell ⟨gb136, 1, none⟩ (.int .i64 (wrap64 (((rd_T31 y115 (ji10)).f1) - (wrap64 (Int.tdiv ((rd_T31 y115 (ji10)).f1) 2)))))).setCell ⟨gb135, 1, none⟩ (.int .i64 (wrap64 (Int.tdiv ((rd_T31 y115 (ji10)).f1) 2)))) w.heap.size (fun k_ => some k_ ≠ (.slice Ao25 t103.length co25 : Value).ownBlock ∧ some k_ ≠ (.slice Ao27 t106.length co27 : Value).ownBlock ∧ some k_ ≠ (.slice Ao39 y128.length co39 : Value).ownBlock ∧ some k_ ≠ (v132 : Value).ownBlock ∧ k_ ≠ gb135 ∧ k_ ≠ gb136) (.slice (some ad134) y115.length co29) y115) := ⟨by (with_reducible repeat (first | apply R_alloc | apply R_drewN | apply R_drew)); exact R_mono (R_far (p := ⟨gb135, 1, none⟩) (R_far (p := ⟨gb136, 1, none⟩) (R_far (p := ⟨gb136, 2, none⟩) (R_far (p := ⟨gb136, 1, none⟩) (R_far (p := ⟨gb136, 0, none⟩) (R_mono (R_mono HO117.out (fun k_ hk => (⟨hk, hk.2⟩ : _ ∧ k_ ≠ gb136))) (fun k_ hk => (⟨hk, hk.1.1.2⟩ : _ ∧ k_ ≠ gb135))) (fun _ hk => hk.1.2) (.int .i64 ((rd_T31 y115 (ji10)).f0))) (fun _ hk => hk.1.2) (.int .i64 ((rd_T31 y115 (ji10)).f1))) (fun _ hk => hk.1.2) (.string ((rd_T31 y115 (ji10)).f2))) (fun _ hk => hk.1.2) (.int .i64 (wrap64 (((rd_T31 y115 (ji10)).f1) - (wrap64 (Int.tdiv ((rd_T31 y115 (ji10)).f1) 2)))))) (fun _ hk => hk.2) (.int .i64 (wrap64 (Int.tdiv ((rd_T31 y115 (ji10)).f1) 2)))) (fun _ hk => ⟨hk.1.1.1.1.1.1, ⟨hk.1.1.1.1.1.2.1, ⟨hk.1.1.1.1.1.2.2, ⟨hk.1.1.1.1.2, ⟨hk.1.1.1.2, hk.1.1.2⟩⟩⟩⟩⟩)⟩
               have n3_ : Aside0 (Kd.R k31 31 (((((w71.setCell ⟨gb136, 0, none⟩ (.int .i64 ((rd_T31 y115 (ji10)).f0))).setCell ⟨gb136, 1, none⟩ (.int .i64 ((rd_T31 y115 (ji10)).f1))).setCell ⟨gb136, 2, none⟩ (.string ((rd_T31 y115 (ji10)).f2))).setCell ⟨gb136, 1, none⟩ (.int .i64 (wrap64 (((rd_T31 y115 (ji10)).f1) - (wrap64 (Int.tdiv ((rd_T31 y115 (ji10)).f1) 2)))))).setCell ⟨gb135, 1, none⟩ (.int .i64 (wrap64 (Int.tdiv ((rd_T31 y115 (ji10)).f1) 2)))) w.heap.size (fun k_ => some k_ ≠ (.slice Ao25 t103.length co25 : Value).ownBlock ∧ some k_ ≠ (.slice Ao27 t106.length co27 : Value).ownBlock ∧ some k_ ≠ (.slice (some ad134) y115.length co29 : Value).ownBlock ∧ some k_ ≠ (v132 : Value).ownBlock ∧ k_ ≠ gb135 ∧ k_ ≠ gb136) (.slice Ao39 y128.length co39) y128) := ⟨by (with_reducible repeat (first | apply R_alloc | apply R_drewN | apply R_drew)); exact R_mono (R_far (p := ⟨gb135, 1, none⟩) (R_far (p := ⟨gb136, 1, none⟩) (R_far (p := ⟨gb136, 2, none⟩) (R_far (p := ⟨gb136, 1, none⟩) (R_far (p := ⟨gb136, 0, none⟩) (R_mono (R_mono HO130.out (fun k_ hk => (⟨hk, hk.2⟩ : _ ∧ k_ ≠ gb136))) (fun k_ hk => (⟨hk, hk.1.1.2⟩ : _ ∧ k_ ≠ gb135))) (fun _ hk => hk.1.2) (.int .i64 ((rd_T31 y115 (ji10)).f0))) (fun _ hk => hk.1.2) (.int .i64 ((rd_T31 y115 (ji10)).f1))) (fun _ hk => hk.1.2) (.string ((rd_T31 y115 (ji10)).f2))) (fun _ hk => hk.1.2) (.int .i64 (wrap64 (((rd_T31 y115 (ji10)).f1) - (wrap64 (Int.tdiv ((rd_T31 y115 (ji10)).f1) 2)))))) (fun _ hk => hk.2) (.int .i64 (wrap64 (Int.tdiv ((rd_T31 y115 (ji10)).f1) 2)))) (fun _ hk => ⟨hk.1.1.1.1.1.1, ⟨hk.1.1.1.1.1.2.1, ⟨hk.1.1.1.1.1.2.2, ⟨hk.1.1.1.1.2, ⟨hk.1.1.1.2, hk.1.1.2⟩⟩⟩⟩⟩)⟩
               have n4_ : Aside0 (Kd.R k31 31 (((((w71.setCell ⟨gb136, 0, none⟩ (.int .i64 ((rd_T31 y115 (ji10)).f0))).setCell ⟨gb136, 1, none⟩ (.int .i64 ((rd_T31 y115 (ji10)).f1))).setCell ⟨gb136, 2, none⟩ (.string ((rd_T31 y115 (ji10)).f2))).setCell ⟨gb136, 1, none⟩ (.int .i64 (wrap64 (((rd_T31 y115 (ji10)).f1) - (wrap64 (Int.tdiv ((rd_T31 y115 (ji10)).f1) 2)))))).setCell ⟨gb135, 1, none⟩ (.int .i64 (wrap64 (Int.tdiv ((rd_T31 y115 (ji10)).f1) 2)))) w.heap.size (fun k_ => some k_ ≠ (.slice Ao25 t103.length co25 : Value).ownBlock ∧ some k_ ≠ (.slice Ao27 t106.length co27 : Value).ownBlock ∧ some k_ ≠ (.slice (some ad134) y115.length co29 : Value).ownBlock ∧ some k_ ≠ (.slice Ao39 y128.length co39 : Value).ownBlock ∧ k_ ≠ gb135 ∧ k_ ≠ gb136) v132 y131) := ⟨by (with_reducible repeat (first | apply R_alloc | apply R_drewN | apply R_drew)); exact R_mono (R_far (p := ⟨gb135, 1, none⟩) (R_far (p := ⟨gb136, 1, none⟩) (R_far (p := ⟨gb136, 2, none⟩) (R_far (p := ⟨gb136, 1, none⟩) (R_far (p := ⟨gb136, 0, none⟩) (R_mono (R_mono HO133.out (fun k_ hk => (⟨hk, hk.2⟩ : _ ∧ k_ ≠ gb136))) (fun k_ hk => (⟨hk, hk.1.1.2⟩ : _ ∧ k_ ≠ gb135))) (fun _ hk => hk.1.2) (.int .i64 ((rd_T31 y115 (ji10)).f0))) (fun _ hk => hk.1.2) (.int .i64 ((rd_T31 y115 (ji10)).f1))) (fun _ hk => hk.1.2) (.string ((rd_T31 y115 (ji10)).f2))) (fun _ hk => hk.1.2) (.int .i64 (wrap64 (((rd_T31 y115 (ji10)).f1) - (wrap64 (Int.tdiv ((rd_T31 y115 (ji10)).f1) 2)))))) (fun _ hk => hk.2) (.int .i64 (wrap64 (Int.tdiv ((rd_T31 y115 (ji10)).f1) 2)))) (fun _ hk => ⟨hk.1.1.1.1.1, ⟨hk.1.1.1.1.2.1, ⟨hk.1.1.1.1.2.2.1, ⟨hk.1.1.1.1.2.2.2, ⟨hk.1.1.1.2, hk.1.1.2⟩⟩⟩⟩⟩)⟩
               have n5_ : Aside0 ((((((w71.setCell ⟨gb136, 0, none⟩ (.int .i64 ((rd_T31 y115 (ji10)).f0))).setCell ⟨gb136, 1, none⟩ (.int .i64 ((rd_T31 y115 (ji10)).f1))).setCell ⟨gb136, 2, none⟩ (.string ((rd_T31 y115 (ji10)).f2))).setCell ⟨gb136, 1, none⟩ (.int .i64 (wrap64 (((rd_T31 y115 (ji10)).f1) - (wrap64 (Int.tdiv ((rd_T31 y115 (ji10)).f1) 2)))))).setCell ⟨gb135, 1, none⟩ (.int .i64 (wrap64 (Int.tdiv ((rd_T31 y115 (ji10)).f1) 2)))).heap[gb101]? = some (.cells #[.int .u8 a2_0, .int .u8 a2_1, .int .u8 a2_2] 29 (0, 0))) := ⟨by (with_reducible repeat (first | refine blk_drewN ?_ _ | refine blk_drew ?_ | refine blk_alloc ?_ _)); refine blk_far ?_ NB101_135.out _; (with_reducible repeat (first | refine blk_drewN ?_ _ | refine blk_drew ?_ | refine blk_alloc ?_ _)); refine blk_far ?_ NB101_136.out _; (with_reducible repeat (first | refine blk_drewN ?_ _ | refine blk_drew ?_ | refine blk_alloc ?_ _)); refine blk_far ?_ NB101_136.out _; (with_reducible repeat (first | refine blk_drewN ?_ _ | refine blk_drew ?_ | refine blk_alloc ?_ _)); refine blk_far ?_ NB101_136.out _; (with_reducible repeat (first | refine blk_drewN ?_ _ | refine blk_drew ?_ | refine blk_alloc ?_ _)); refine blk_far ?_ NB101_136.out _; (with_reducible repeat (first | refine blk_drewN ?_ _ | refine blk_drew ?_ | refine blk_alloc ?_ _)); exact BK101.out⟩
               have n6_ : Aside0 ((((((w71.setCell ⟨gb136, 0, none⟩ (.int .i64 ((rd_T31 y115 (ji10)).f0))).setCell ⟨gb136, 1, none⟩ (.int .i64 ((rd_T31 y115 (ji10)).f1))).setCell ⟨gb136, 2, none⟩ (.string ((rd_T31 y115 (ji10)).f2))).setCell ⟨gb136, 1, none⟩ (.int .i64 (wrap64 (((rd_T31 y115 (ji10)).f1) - (wrap64 (Int.tdiv ((rd_T31 y115 (ji10)).f1) 2)))))).setCell ⟨gb135, 1, none⟩ (.int .i64 (wrap64 (Int.tdiv ((rd_T31 y115 (ji10)).f1) 2)))).heap[gb135]? = some (.cells #[.int .i64 ((rd_T31 y115 (ji10)).f0), .int .i64 (wrap64 (Int.tdiv ((rd_T31 y115 (ji10)).f1) 2)), .string ((rd_T31 y115 (ji10)).f2)] 31 (0, 0))) := ⟨by (with_reducible repeat (first | refine blk_drewN ?_ _ | refine blk_drew ?_ | refine blk_alloc ?_ _)); refine blk_put (cs := #[.int .i64 ((rd_T31 y115 (ji10)).f0), .int .i64 ((rd_T31 y115 (ji10)).f1), .string ((rd_T31 y115 (ji10)).f2)]) ?_ 1 _ rfl; (with_reducible repeat (first | refine blk_drewN ?_ _ | refine blk_drew ?_ | refine blk_alloc ?_ _)); refine blk_far ?_ NB135_136.out _; (with_reducible repeat (first | refine blk_drewN ?_ _ | refine blk_drew ?_ | refine blk_alloc ?_ _)); refine blk_far ?_ NB135_136.out _; (with_reducible repeat (first | refine blk_drewN ?_ _ | refine blk_drew ?_ | refine blk_alloc ?_ _)); refine blk_far ?_ NB135_136.out _; (with_reducible repeat (first | refine blk_drewN ?_ _ | refine blk_drew ?_ | refine blk_alloc ?_ _)); refine blk_far ?_ NB135_136.out _; (with_reducible repeat (first | refine blk_drewN ?_ _ | refine blk_drew ?_ | refine blk_alloc ?_ _)); exact BK135.out⟩
               have n7_ : Aside0 ((((((w71.setCell ⟨gb136, 0, none⟩ (.int .i64 ((rd_T31 y115 (ji10)).f0))).setCell ⟨gb136, 1, none⟩ (.int .i64 ((rd_T31 y115 (ji10)).f1))).setCell ⟨gb136, 2, none⟩ (.string ((rd_T31 y115 (ji10)).f2))).setCell ⟨gb136, 1, none⟩ (.int .i64 (wrap64 (((rd_T31 y115 (ji10)).f1) - (wrap64 (Int.tdiv ((rd_T31 y115 (ji10)).f1) 2)))))).setCell ⟨gb135, 1, none⟩ (.int .i64 (wrap64 (Int.tdiv ((rd_T31 y115 (ji10)).f1) 2)))).heap[gb136]? = some (.cells #[.int .i64 ((rd_T31 y115 (ji10)).f0), .int .i64 (wrap64 (((rd_T31 y115 (ji10)).f1) - (wrap64 (Int.tdiv ((rd_T31 y115 (ji10)).f1) 2)))), .string ((rd_T31 y115 (ji10)).f2)] 31 (0, 0))) := ⟨by (with_reducible repeat (first | refine blk_drewN ?_ _ | refine blk_drew ?_ | refine blk_alloc ?_ _)); refine blk_far ?_ NB136_135.out _; (with_reducible repeat (first | refine blk_drewN ?_ _ | refine blk_drew ?_ | refine blk_alloc ?_ _)); refine blk_put (cs := #[.int .i64 ((rd_T31 y115 (ji10)).f0), .int .i64 ((rd_T31 y115 (ji10)).f1), .string ((rd_T31 y115 (ji10)).f2)]) ?_ 1 _ rfl; (with_reducible repeat (first | refine blk_drewN ?_ _ | refine blk_drew ?_ | refine blk_alloc ?_ _)); refine blk_put (cs := #[.int .i64 ((rd_T31 y115 (ji10)).f0), .int .i64 ((rd_T31 y115 (ji10)).f1), .string (⟨#[]⟩ : ByteArray)]) ?_ 2 _ rfl; (with_reducible repeat (first | refine blk_drewN ?_ _ | refine blk_drew ?_ | refine blk_alloc ?_ _)); refine blk_put (cs := #[.int .i64 ((rd_T31 y115 (ji10)).f0), .int .i64 0, .string (⟨#[]⟩ : ByteArray)]) ?_ 1 _ rfl; (with_reducible repeat (first | refine blk_drewN ?_ _ | refine blk_drew ?_ | refine blk_alloc ?_ _)); refine blk_put (cs := #[.int .i64 0, .int .i64 0, .string (⟨#[]⟩ : ByteArray)]) ?_ 0 _ rfl; (with_reducible repeat (first | refine blk_drewN ?_ _ | refine blk_drew ?_ | refine blk_alloc ?_ _)); exact BK136.out⟩
               have n8_ : Aside0 (Below w.heap.size w (((((w71.setCell ⟨gb136, 0, none⟩ (.int .i64 ((rd_T31 y115 (ji10)).f0))).setCell ⟨gb136, 1, none⟩ (.int .i64 ((rd_T31 y115 (ji10)).f1))).setCell ⟨gb136, 2, none⟩ (.string ((rd_T31 y115 (ji10)).f2))).setCell ⟨gb136, 1, none⟩ (.int .i64 (wrap64 (((rd_T31 y115 (ji10)).f1) - (wrap64 (Int.tdiv ((rd_T31 y115 (ji10)).f1) 2)))))).setCell ⟨gb135, 1, none⟩ (.int .i64 (wrap64 (Int.tdiv ((rd_T31 y115 (ji10)).f1) 2))))) := ⟨by repeat (first | (with_reducible first | exact HB.out | apply below_alloc | apply pw_below_drewN | apply below_drew1 | refine below_set ?_ GE101.out | refine below_set ?_ GE135.out | refine below_set ?_ GE136.out) | exact HB.out)⟩
               (try clear HO105)
               (try clear HO108)
               (try clear HO117)
               (try clear HO130)
               (try clear HO133)
               (try clear BK101)
               (try clear BK135)
               (try clear BK136)
               (try clear HB)
               generalize (((((w71.setCell ⟨gb136, 0, none⟩ (.int .i64 ((rd_T31 y115 (ji10)).f0))).setCell ⟨gb136, 1, none⟩ (.int .i64 ((rd_T31 y115 (ji10)).f1))).setCell ⟨gb136, 2, none⟩ (.string ((rd_T31 y115 (ji10)).f2))).setCell ⟨gb136, 1, none⟩ (.int .i64 (wrap64 (((rd_T31 y115 (ji10)).f1) - (wrap64 (Int.tdiv ((rd_T31 y115 (ji10)).f1) 2)))))).setCell ⟨gb135, 1, none⟩ (.int .i64 (wrap64 (Int.tdiv ((rd_T31 y115 (ji10)).f1) 2)))) = w76 at n0_ n1_ n2_ n3_ n4_ n5_ n6_ n7_ n8_ ⊢
               have HO105 := n0_
               have HO108 := n1_
               have HO117 := n2_
               have HO130 := n3_
               have HO133 := n4_
               have BK101 := n5_
               have BK135 := n6_
               have BK136 := n7_
               have HB := n8_
               clear n0_ n1_ n2_ n3_ n4_ n5_ n6_ n7_ n8_
               have n0_ := Am (R_drew HO105.out)
               have n1_ := Am (R_drew HO108.out)
               have n2_ := Am (R_drew HO117.out)
               have n3_ := Am (R_drew HO130.out)
               have n4_ := Am (R_drew HO133.out)
               have n5_ := Am (blk_drew BK101.out)
               have n6_ := Am (blk_drew BK135.out)
               have n7_ := Am (blk_drew BK136.out)
               have n8_ := Am (below_drew1 HB.out)
               clear HO105
               clear HO108
               clear HO117
               clear HO130
               clear HO133
               clear BK101
               clear BK135
               clear BK136
               clear HB
               have HO105 := n0_
               have HO108 := n1_
               have HO117 := n2_
               have HO130 := n3_
               have HO133 := n4_
               have BK101 := n5_
               have BK135 := n6_
               have BK136 := n7_
               have HB := n8_
               clear n0_ n1_ n2_ n3_ n4_ n5_ n6_ n7_ n8_
               have q78 : ((ji64) : Int) ≤ ((y115.length : Int) : Int) := of_decide_eq_true (by first | (with_reducible assumption) | assumption)
               obtain ⟨i078, hi078, _, hsz78, _⟩ := info_parts info31
               have hroom78 : y115.length ≤ co29 := (R_reads' HO117.out).2.1
               have hC78 : Kd.C k31 _ (some ad134) y115.length y115 := (R_reads' HO117.out).2.2
               have q078 : (0 : Int) ≤ ((ji64) : Int) := of_decide_eq_true (by first | (with_reducible assumption) | assumption)
               have hcut78 := cut_from (P := Try.prog) 22 31 .i64 Try.underlying22 hi078 3 hsz78 (some ad134) y115.length co29 (ji64) q078 q78
               have hr78 := C_drop (m := ((ji64) : Int).toNat) (c := co29) hC78 (by omega) hroom78
               obtain ⟨A78, hA78⟩ : ∃ A1, A1 = (if co29 = ((ji64) : Int).toNat then (some ad134) else ((some ad134) : Option Addr).map (·.add (((ji64) : Int).toNat * 3))) := ⟨_, rfl⟩
               obtain ⟨c78, hc78⟩ : ∃ c1, c1 = co29 - ((ji64) : Int).toNat := ⟨_, rfl⟩
               have hy78 : y156.length = y115.length - ((ji64) : Int).toNat := (by rw [Ny156.out, List.length_drop] <;> omega)
               rw [show (y115).drop ((ji64) : Int).toNat = y156 from Ny156.out.symm] at hr78
               replace hr78 : Kd.C k31 _ A78 y156.length y156 := (by rw [hA78]; exact hr78)
               rw [← hy78, ← hA78, ← hc78] at hcut78
               have HR159 := Am hr78
               have HC159 := Am (show y156.length ≤ c78 from by rw [hy78, hc78]; exact Nat.sub_le_sub_right hroom78 _)
               clear hr78 hC78 hroom78 hi078 hsz78 hc78
               have KY78 := Am hy78
               have KA78 := Am hA78
               clear hy78 hA78
               have KL78 := Am (show ((ji64) : Int).toNat ≤ y115.length from by omega)
               replace q78 := eq_true q78
               refine start_ (n := 11) (S := fun w' => w'.cell? ⟨gb135, 0, none⟩ = some (.int .i64 ((rd_T31 y115 (ji10)).f0)) ∧ w'.cell? ⟨gb135, 1, none⟩ = some (.int .i64 (wrap64 (Int.tdiv ((rd_T31 y115 (ji10)).f1) 2))) ∧ w'.cell? ⟨gb135, 2, none⟩ = some (.string ((rd_T31 y115 (ji10)).f2)) ∧ w'.cell? ⟨gb136, 0, none⟩ = some (.int .i64 ((rd_T31 y115 (ji10)).f0)) ∧ w'.cell? ⟨gb136, 1, none⟩ = some (.int .i64 (wrap64 (((rd_T31 y115 (ji10)).f1) - (wrap64 (Int.tdiv ((rd_T31 y115 (ji10)).f1) 2))))) ∧ w'.cell? ⟨gb136, 2, none⟩ = some (.string ((rd_T31 y115 (ji10)).f2))) (ds := []) #[false, false, false, false, false, false, false, false, false, false, false] (by kernel_rfl) rfl rfl ⟨(blk_cell BK135.out 0).trans rfl, (blk_cell BK135.out 1).trans rfl, (blk_cell BK135.out 2).trans rfl, (blk_cell BK136.out 0).trans rfl, (blk_cell BK136.out 1).trans rfl, (blk_cell BK136.out 2).trans rfl⟩ (fun hHeld => ?_); refine with_tabW epitomelaw05_NormalParts.tab15 epitomelaw05_NormalParts.bits15 (fun HT_ HW_ => ?_)
               generalize w76.drew = w77 at HO105 HO108 HO117 HO130 HO133 BK101 BK135 BK136 HB HR159 hHeld ⊢
               refine pure_ (i := 0) (N := some 78) (v := ?_) (a' := ?_) #[true, false, false, false, false, false, false, false, false, false, false] rfl rfl (any_of HT_.out (by kernel_rfl)) (fun _ _ _ h => h) (Or.inl ⟨by rfl, ?_⟩) ?_ ?_
               rotate_left
               ·intro w'
                go_simp
                with_reducible rfl
               rotate_left
               ·simp only [Act.put, List.setIfInBounds_toArray, List.set_cons_zero, List.set_cons_succ, i64_w, i32_w]
                rfl
               refine pure_ (i := 5) (N := some 83) (v := ?_) (a' := ?_) #[true, false, false, false, false, true, false, false, false, false, false] rfl rfl (any_of HT_.out (by kernel_rfl)) (fun _ _ _ h => h) (Or.inl ⟨by rfl, ?_⟩) ?_ ?_
               rotate_left
               ·intro w'
                go_simp
                with_reducible rfl
               rotate_left
               ·simp only [Act.put, List.setIfInBounds_toArray, List.set_cons_zero, List.set_cons_succ, i64_w, i32_w]
                rfl
               refine pure_ (i := 6) (N := some 84) (v := ?_) (a' := ?_) #[true, false, false, false, false, true, true, false, false, false, false] rfl rfl (any_of HT_.out (by kernel_rfl)) (fun _ _ _ h => h) (Or.inl ⟨by rfl, ?_⟩) ?_ ?_
               rotate_left
               ·intro w'
                go_simp
                with_reducible rfl
               rotate_left
               ·simp only [Act.put, List.setIfInBounds_toArray, List.set_cons_zero, List.set_cons_succ, i64_w, i32_w]
                rfl
               refine pure_ (i := 7) (N := some 85) (v := ?_) (a' := ?_) #[true, false, false, false, false, true, true, true, false, false, false] rfl rfl (any_of HT_.out (by kernel_rfl)) (fun _ _ _ h => h) (Or.inl ⟨by rfl, ?_⟩) ?_ ?_
               rotate_left
               ·intro w'
                go_simp
                with_reducible rfl
               rotate_left
               ·simp only [Act.put, List.setIfInBounds_toArray, List.set_cons_zero, List.set_cons_succ, i64_w, i32_w]
                rfl
               refine pure_ (i := 8) (N := some 86) (v := ?_) (a' := ?_) #[true, false, false, false, false, true, true, true, true, false, false] rfl rfl (any_of HT_.out (by kernel_rfl)) (fun _ _ _ h => h) (Or.inl ⟨by rfl, ?_⟩) ?_ ?_
               rotate_left
               ·intro w'
                go_simp
                with_reducible rfl
               rotate_left
               ·simp only [Act.put, List.setIfInBounds_toArray, List.set_cons_zero, List.set_cons_succ, i64_w, i32_w]
                rfl
               refine take_ (i := 1) (N := some 79) (v := ?_) (a' := ?_) #[true, true, false, false, false, true, true, true, true, false, false] rfl rfl (take_ofW HT_.out HW_.out (by kernel_rfl)) (fun _ _ _ h => h) (Or.inl ⟨by rfl, ?_⟩) hHeld ?_ ?_
               rotate_left
               ·rintro w' ⟨s0, s1, s2, s3, s4, s5⟩
                go_simp
                with_reducible rfl
               rotate_left
               ·simp only [Act.put, List.setIfInBounds_toArray, List.set_cons_zero, List.set_cons_succ, i64_w, i32_w]
                rfl
               refine take_ (i := 2) (N := some 80) (v := ?_) (a' := ?_) #[true, true, true, false, false, true, true, true, true, false, false] rfl rfl (take_ofW HT_.out HW_.out (by kernel_rfl)) (fun _ _ _ h => h) (Or.inl ⟨by rfl, ?_⟩) hHeld ?_ ?_
               rotate_left
               ·rintro w' ⟨s0, s1, s2, s3, s4, s5⟩
                go_simp
                with_reducible rfl
               rotate_left
               ·simp only [Act.put, List.setIfInBounds_toArray, List.set_cons_zero, List.set_cons_succ, i64_w, i32_w]
                rfl
               refine one_ (i := 3) (N := some 81) #[true, true, true, true, false, true, true, true, true, false, false] rfl rfl (one_of HT_.out (by kernel_rfl)) (by decide) (fun K hK => ?_)
               refine R_lit_step k31 _ 31 ?hg (N := 81) ?hd (xs := ([(⟨(rd_T31 y115 (ji10)).f0, wrap64 (Int.tdiv ((rd_T31 y115 (ji10)).f1) 2), (rd_T31 y115 (ji10)).f2⟩ : S31), (⟨(rd_T31 y115 (ji10)).f0, wrap64 (((rd_T31 y115 (ji10)).f1) - (wrap64 (Int.tdiv ((rd_T31 y115 (ji10)).f1) 2))), (rd_T31 y115 (ji10)).f2⟩ : S31)] : List (S31))) (inner := [.int .i64 ((rd_T31 y115 (ji10)).f0), .int .i64 (wrap64 (Int.tdiv ((rd_T31 y115 (ji10)).f1) 2)), .string ((rd_T31 y115 (ji10)).f2), .int .i64 ((rd_T31 y115 (ji10)).f0), .int .i64 (wrap64 (((rd_T31 y115 (ji10)).f1) - (wrap64 (Int.tdiv ((rd_T31 y115 (ji10)).f1) 2)))), .string ((rd_T31 y115 (ji10)).f2)]) (ok := fun _ => True) (okp := fun _ => True) ?hr ?hp (fun _ hk => hk) trivial (Below.refl _ _) (Nat.le_refl _) (by simp) ?_; (case hd => rfl); (case hg => rfl); (case hr => first | (go_simp; done) | (go_simp; rfl)); (case hp => exact (Reps.c3 (show Kd.M k31 _ _ _ (⟨(rd_T31 y115 (ji10)).f0, wrap64 (Int.tdiv ((rd_T31 y115 (ji10)).f1) 2), (rd_T31 y115 (ji10)).f2⟩ : S31) [.int .i64 ((rd_T31 y115 (ji10)).f0), .int .i64 (wrap64 (Int.tdiv ((rd_T31 y115 (ji10)).f1) 2)), .string ((rd_T31 y115 (ji10)).f2)] from (k31_mkM _ _ _ (⟨(rd_T31 y115 (ji10)).f0, wrap64 (Int.tdiv ((rd_T31 y115 (ji10)).f1) 2), (rd_T31 y115 (ji10)).f2⟩ : S31) )) (Reps.c3 (show Kd.M k31 _ _ _ (⟨(rd_T31 y115 (ji10)).f0, wrap64 (((rd_T31 y115 (ji10)).f1) - (wrap64 (Int.tdiv ((rd_T31 y115 (ji10)).f1) 2))), (rd_T31 y115 (ji10)).f2⟩ : S31) [.int .i64 ((rd_T31 y115 (ji10)).f0), .int .i64 (wrap64 (((rd_T31 y115 (ji10)).f1) - (wrap64 (Int.tdiv ((rd_T31 y115 (ji10)).f1) 2)))), .string ((rd_T31 y115 (ji10)).f2)] from (k31_mkM _ _ _ (⟨(rd_T31 y115 (ji10)).f0, wrap64 (((rd_T31 y115 (ji10)).f1) - (wrap64 (Int.tdiv ((rd_T31 y115 (ji10)).f1) 2))), (rd_T31 y115 (ji10)).f2⟩ : S31) )) (Reps.none _ _))))
               intro v151 w79 ho80 hb hg_ hnew_
               clear hg_ hnew_
               (first | rw [← Ny150.out] at ho80 | (simp only [Int.reduceToNat] at ho80; rw [← Ny150.out] at ho80))
               have n0_ := Am (R_elder' (by (with_reducible repeat (first | apply R_alloc | apply R_drewN | apply R_drew)); exact HO105.out) (R_base ho80) hb)
               have n1_ := Am (R_elder' (by (with_reducible repeat (first | apply R_alloc | apply R_drewN | apply R_drew)); exact HO108.out) (R_base ho80) hb)
               have n2_ := Am (R_elder' (by (with_reducible repeat (first | apply R_alloc | apply R_drewN | apply R_drew)); exact HO117.out) (R_base ho80) hb)
               have n3_ := Am (R_elder' (by (with_reducible repeat (first | apply R_alloc | apply R_drewN | apply R_drew)); exact HO130.out) (R_base ho80) hb)
               have n4_ := Am (R_elder' (by (with_reducible repeat (first | apply R_alloc | apply R_drewN | apply R_drew)); exact HO133.out) (R_base ho80) hb)
               have n5_ := Am (R_lower (R_newB (R_newB (R_new' (R_new' (R_new' (R_new' (R_new' ho80 (R_lt (by (with_reducible repeat (first | apply R_alloc | apply R_drewN | apply R_drew)); exact HO105.out))) (R_lt (by (with_reducible repeat (first | apply R_alloc | apply R_drewN | apply R_drew)); exact HO108.out))) (R_lt (by (with_reducible repeat (first | apply R_alloc | apply R_drewN | apply R_drew)); exact HO117.out))) (R_lt (by (with_reducible repeat (first | apply R_alloc | apply R_drewN | apply R_drew)); exact HO130.out))) (R_lt (by (with_reducible repeat (first | apply R_alloc | apply R_drewN | apply R_drew)); exact HO133.out))) (g := gb135) (o := .cells #[.int .i64 ((rd_T31 y115 (ji10)).f0), .int .i64 (wrap64 (Int.tdiv ((rd_T31 y115 (ji10)).f1) 2)), .string ((rd_T31 y115 (ji10)).f2)] 31 (0, 0)) (by (with_reducible repeat (first | refine blk_drewN ?_ _ | refine blk_drew ?_ | refine blk_alloc ?_ _)); exact BK135.out)) (g := gb136) (o := .cells #[.int .i64 ((rd_T31 y115 (ji10)).f0), .int .i64 (wrap64 (((rd_T31 y115 (ji10)).f1) - (wrap64 (Int.tdiv ((rd_T31 y115 (ji10)).f1) 2)))), .string ((rd_T31 y115 (ji10)).f2)] 31 (0, 0)) (by (with_reducible repeat (first | refine blk_drewN ?_ _ | refine blk_drew ?_ | refine blk_alloc ?_ _)); exact BK136.out)) (below_size (by repeat (first | (with_reducible first | exact HB.out | apply below_alloc | apply pw_below_drewN | apply below_drew1 | refine below_set ?_ GE101.out | refine below_set ?_ GE135.out | refine below_set ?_ GE136.out) | exact HB.out))))
               have n6_ := Am (blk_below (g := gb101) (o := .cells #[.int .u8 a2_0, .int .u8 a2_1, .int .u8 a2_2] 29 (0, 0)) (by (with_reducible repeat (first | refine blk_drewN ?_ _ | refine blk_drew ?_ | refine blk_alloc ?_ _)); exact BK101.out) hb)
               have n7_ := Am (blk_below (g := gb135) (o := .cells #[.int .i64 ((rd_T31 y115 (ji10)).f0), .int .i64 (wrap64 (Int.tdiv ((rd_T31 y115 (ji10)).f1) 2)), .string ((rd_T31 y115 (ji10)).f2)] 31 (0, 0)) (by (with_reducible repeat (first | refine blk_drewN ?_ _ | refine blk_drew ?_ | refine blk_alloc ?_ _)); exact BK135.out) hb)
               have n8_ := Am (blk_below (g := gb136) (o := .cells #[.int .i64 ((rd_T31 y115 (ji10)).f0), .int .i64 (wrap64 (((rd_T31 y115 (ji10)).f1) - (wrap64 (Int.tdiv ((rd_T31 y115 (ji10)).f1) 2)))), .string ((rd_T31 y115 (ji10)).f2)] 31 (0, 0)) (by (with_reducible repeat (first | refine blk_drewN ?_ _ | refine blk_drew ?_ | refine blk_alloc ?_ _)); exact BK136.out) hb)
               have n9_ := Am (C_below (by repeat (first | (with_reducible exact HR159.out) | (with_reducible refine C_alloc ?_ _) | (with_reducible refine C_drewN ?_ _) | (with_reducible refine C_drew ?_) | exact HR159.out)) hb)
               have n10_ := Am (below_step (by repeat (first | (with_reducible first | exact HB.out | apply below_alloc | apply pw_below_drewN | apply below_drew1 | refine below_set ?_ GE101.out | refine below_set ?_ GE135.out | refine below_set ?_ GE136.out) | exact HB.out)) hb)
               clear HO105
               clear HO108
               clear HO117
               clear HO130
               clear HO133
               clear BK101
               clear BK135
               clear BK136
               clear HR159
               clear HB
               have HO105 := n0_
               have HO108 := n1_
               have HO117 := n2_
               have HO130 := n3_
               have HO133 := n4_
               have HO152 := n5_
               have BK101 := n6_
               have BK135 := n7_
               have BK136 := n8_
               have HR159 := n9_
               have HB := n10_
               clear n0_ n1_ n2_ n3_ n4_ n5_ n6_ n7_ n8_ n9_ n10_
               clear hb ho80
               obtain ⟨Ao82, co82, eo82⟩ := R_slice HO152.out
               (first | subst eo82 | (injection eo82 with f1_ f2_ f3_; have f4_ := f1_.symm; have f5_ := f3_.symm; clear f1_ f2_ f3_; subst f4_; subst f5_))
               refine hK.out _ _ ⟨(blk_cell BK135.out 0).trans rfl, (blk_cell BK135.out 1).trans rfl, (blk_cell BK135.out 2).trans rfl, (blk_cell BK136.out 0).trans rfl, (blk_cell BK136.out 1).trans rfl, (blk_cell BK136.out 2).trans rfl⟩ (fun hHeld => ?_)
               clear hK K
               refine norm_ (a' := ?_) ?_ ?_
               rotate_left
               ·show Act.put _ (some 81) _ = _
                simp only [Act.put, List.setIfInBounds_toArray, List.set_cons_zero, List.set_cons_succ, i64_w, i32_w]
                rfl
               refine one_ (i := 4) (N := some 82) #[true, true, true, true, true, true, true, true, true, false, false] rfl rfl (one_of HT_.out (by kernel_rfl)) (by decide) (fun K hK => ?_)
               refine R_append_rows_step k31 (w0 := w) w.heap.size (by rfl) (.tmp 78) (.tmp 81) 22 31 (.agg #[(.int .i64 0), (.int .i64 0), (.string ⟨#[]⟩)]) 32 rfl Try.underlying22 info31 rfl (by decide) (by omega) v132 y131 y150 _ _ _ (fun k_ => some k_ ≠ (.slice Ao25 t103.length co25 : Value).ownBlock ∧ some k_ ≠ (.slice Ao27 t106.length co27 : Value).ownBlock ∧ some k_ ≠ (.slice (some ad134) y115.length co29 : Value).ownBlock ∧ some k_ ≠ (.slice Ao39 y128.length co39 : Value).ownBlock ∧ some k_ ≠ (.slice Ao82 y150.length co82 : Value).ownBlock ∧ k_ ≠ gb135 ∧ k_ ≠ gb136) (fun _ => False) rfl rfl ?aO ?aR (fun _ _ h => h) (fun _ h => h.elim) ?aF ?aB ?aS ?aL ?_
               (case aR => repeat (first | exact (R_reads' HO152.out).2.2 | (with_reducible refine C_alloc ?_ _) | (with_reducible refine C_drewN ?_ _) | (with_reducible refine C_drew ?_)))
               (case aB => exact (by repeat (first | (with_reducible first | exact HB.out | apply below_alloc | apply pw_below_drewN | apply below_drew1 | refine below_set ?_ GE101.out | refine below_set ?_ GE135.out | refine below_set ?_ GE136.out) | exact HB.out)))
               (case aF => exact (fun k_ hk => ⟨Kd.fresh' (R_lt (by (with_reducible repeat (first | apply R_alloc | apply R_drewN | apply R_drew)); exact HO105.out)) k_ hk, Kd.fresh' (R_lt (by (with_reducible repeat (first | apply R_alloc | apply R_drewN | apply R_drew)); exact HO108.out)) k_ hk, Kd.fresh' (R_lt (by (with_reducible repeat (first | apply R_alloc | apply R_drewN | apply R_drew)); exact HO117.out)) k_ hk, Kd.fresh' (R_lt (by (with_reducible repeat (first | apply R_alloc | apply R_drewN | apply R_drew)); exact HO130.out)) k_ hk, Kd.fresh' (R_lt (by (with_reducible repeat (first | apply R_alloc | apply R_drewN | apply R_drew)); exact HO152.out)) k_ hk, Kd.freshB (g := gb135) (o := .cells #[.int .i64 ((rd_T31 y115 (ji10)).f0), .int .i64 (wrap64 (Int.tdiv ((rd_T31 y115 (ji10)).f1) 2)), .string ((rd_T31 y115 (ji10)).f2)] 31 (0, 0)) (by (with_reducible repeat (first | refine blk_drewN ?_ _ | refine blk_drew ?_ | refine blk_alloc ?_ _)); exact BK135.out) k_ hk, Kd.freshB (g := gb136) (o := .cells #[.int .i64 ((rd_T31 y115 (ji10)).f0), .int .i64 (wrap64 (((rd_T31 y115 (ji10)).f1) - (wrap64 (Int.tdiv ((rd_T31 y115 (ji10)).f1) 2)))), .string ((rd_T31 y115 (ji10)).f2)] 31 (0, 0)) (by (with_reducible repeat (first | refine blk_drewN ?_ _ | refine blk_drew ?_ | refine blk_alloc ?_ _)); exact BK136.out) k_ hk⟩))
               (case aO => exact (by (with_reducible repeat (first | apply R_alloc | apply R_drewN | apply R_drew)); exact R_mono HO133.out (fun _ hk => ⟨hk.1.1, ⟨hk.1.2.1, ⟨hk.1.2.2.1, ⟨hk.1.2.2.2.1, ⟨hk.2, ⟨hk.1.2.2.2.2.1, hk.1.2.2.2.2.2⟩⟩⟩⟩⟩⟩)))
               (case aS => exact (below_size (by repeat (first | (with_reducible first | exact HB.out | apply below_alloc | apply pw_below_drewN | apply below_drew1 | refine below_set ?_ GE101.out | refine below_set ?_ GE135.out | refine below_set ?_ GE136.out) | exact HB.out))))
               (case aL => have := LMc63.out; omega)
               intro v154 w81 ho hb hg hat
               rw [← Ny153.out] at ho
               have n0_ := Am (blk_grown (g := gb101) (o := .cells #[.int .u8 a2_0, .int .u8 a2_1, .int .u8 a2_2] 29 (0, 0)) (by (with_reducible repeat (first | refine blk_drewN ?_ _ | refine blk_drew ?_ | refine blk_alloc ?_ _)); exact BK101.out) hg (R_ne HO133.out BK101.out (by decide)))
               have n1_ := Am (R_after (ok := (fun k_ => some k_ ≠ (.slice Ao27 t106.length co27 : Value).ownBlock ∧ some k_ ≠ (.slice (some ad134) y115.length co29 : Value).ownBlock ∧ some k_ ≠ (.slice Ao39 y128.length co39 : Value).ownBlock ∧ some k_ ≠ (.slice Ao82 y150.length co82 : Value).ownBlock ∧ k_ ≠ gb135 ∧ k_ ≠ gb136)) (by (with_reducible repeat (first | apply R_alloc | apply R_drewN | apply R_drew)); exact R_mono HO105.out (fun _ hk => ⟨⟨hk.1.1, ⟨hk.1.2.1, ⟨hk.1.2.2.1, ⟨hk.2, ⟨hk.1.2.2.2.2.1, hk.1.2.2.2.2.2⟩⟩⟩⟩⟩, hk.1.2.2.2.1⟩)) hg hat)
               have n2_ := Am (R_after (ok := (fun k_ => some k_ ≠ (.slice Ao25 t103.length co25 : Value).ownBlock ∧ some k_ ≠ (.slice (some ad134) y115.length co29 : Value).ownBlock ∧ some k_ ≠ (.slice Ao39 y128.length co39 : Value).ownBlock ∧ some k_ ≠ (.slice Ao82 y150.length co82 : Value).ownBlock ∧ k_ ≠ gb135 ∧ k_ ≠ gb136)) (by (with_reducible repeat (first | apply R_alloc | apply R_drewN | apply R_drew)); exact R_mono HO108.out (fun _ hk => ⟨⟨hk.1.1, ⟨hk.1.2.1, ⟨hk.1.2.2.1, ⟨hk.2, ⟨hk.1.2.2.2.2.1, hk.1.2.2.2.2.2⟩⟩⟩⟩⟩, hk.1.2.2.2.1⟩)) hg hat)
               have n3_ := Am (R_after (ok := (fun k_ => some k_ ≠ (.slice Ao25 t103.length co25 : Value).ownBlock ∧ some k_ ≠ (.slice Ao27 t106.length co27 : Value).ownBlock ∧ some k_ ≠ (.slice Ao39 y128.length co39 : Value).ownBlock ∧ some k_ ≠ (.slice Ao82 y150.length co82 : Value).ownBlock ∧ k_ ≠ gb135 ∧ k_ ≠ gb136)) (by (with_reducible repeat (first | apply R_alloc | apply R_drewN | apply R_drew)); exact R_mono HO117.out (fun _ hk => ⟨⟨hk.1.1, ⟨hk.1.2.1, ⟨hk.1.2.2.1, ⟨hk.2, ⟨hk.1.2.2.2.2.1, hk.1.2.2.2.2.2⟩⟩⟩⟩⟩, hk.1.2.2.2.1⟩)) hg hat)
               have n4_ := Am (R_after (ok := (fun k_ => some k_ ≠ (.slice Ao25 t103.length co25 : Value).ownBlock ∧ some k_ ≠ (.slice Ao27 t106.length co27 : Value).ownBlock ∧ some k_ ≠ (.slice (some ad134) y115.length co29 : Value).ownBlock ∧ some k_ ≠ (.slice Ao82 y150.length co82 : Value).ownBlock ∧ k_ ≠ gb135 ∧ k_ ≠ gb136)) (by (with_reducible repeat (first | apply R_alloc | apply R_drewN | apply R_drew)); exact R_mono HO130.out (fun _ hk => ⟨⟨hk.1.1, ⟨hk.1.2.1, ⟨hk.1.2.2.1, ⟨hk.2, ⟨hk.1.2.2.2.2.1, hk.1.2.2.2.2.2⟩⟩⟩⟩⟩, hk.1.2.2.2.1⟩)) hg hat)
               have n5_ := Am (blk_grown (g := gb135) (o := .cells #[.int .i64 ((rd_T31 y115 (ji10)).f0), .int .i64 (wrap64 (Int.tdiv ((rd_T31 y115 (ji10)).f1) 2)), .string ((rd_T31 y115 (ji10)).f2)] 31 (0, 0)) (by (with_reducible repeat (first | refine blk_drewN ?_ _ | refine blk_drew ?_ | refine blk_alloc ?_ _)); exact BK135.out) hg (R_away HO133.out (fun _ hk => hk.1.2.2.2.2.1)))
               have n6_ := Am (blk_grown (g := gb136) (o := .cells #[.int .i64 ((rd_T31 y115 (ji10)).f0), .int .i64 (wrap64 (((rd_T31 y115 (ji10)).f1) - (wrap64 (Int.tdiv ((rd_T31 y115 (ji10)).f1) 2)))), .string ((rd_T31 y115 (ji10)).f2)] 31 (0, 0)) (by (with_reducible repeat (first | refine blk_drewN ?_ _ | refine blk_drew ?_ | refine blk_alloc ?_ _)); exact BK136.out) hg (R_away HO133.out (fun _ hk => hk.1.2.2.2.2.2)))
               have n7_ := Am (R_after (ok := (fun k_ => some k_ ≠ (.slice Ao25 t103.length co25 : Value).ownBlock ∧ some k_ ≠ (.slice Ao27 t106.length co27 : Value).ownBlock ∧ some k_ ≠ (.slice (some ad134) y115.length co29 : Value).ownBlock ∧ some k_ ≠ (.slice Ao39 y128.length co39 : Value).ownBlock ∧ k_ ≠ gb135 ∧ k_ ≠ gb136)) (by (with_reducible repeat (first | apply R_alloc | apply R_drewN | apply R_drew)); exact R_mono HO152.out (fun _ hk => ⟨⟨hk.1.1.1.1.1.1.2, ⟨hk.1.1.1.1.1.2, ⟨hk.1.1.1.1.2, ⟨hk.1.1.1.2, ⟨hk.1.2, hk.2⟩⟩⟩⟩⟩, hk.1.1.2⟩)) hg hat)
               have n8_ := Am (hb)
               have n9_ := Am ((show Kd.C k31 w81 A78 y156.length y156 from by rw [Ny156.out, KA78.out]; exact C_drop (m := ((ji64) : Int).toNat) (c := co29) ((R_reads' (R_after (ok := (fun k_ => some k_ ≠ (.slice Ao25 t103.length co25 : Value).ownBlock ∧ some k_ ≠ (.slice Ao27 t106.length co27 : Value).ownBlock ∧ some k_ ≠ (.slice Ao39 y128.length co39 : Value).ownBlock ∧ some k_ ≠ (.slice Ao82 y150.length co82 : Value).ownBlock ∧ k_ ≠ gb135 ∧ k_ ≠ gb136)) (by (with_reducible repeat (first | apply R_alloc | apply R_drewN | apply R_drew)); exact R_mono HO117.out (fun _ hk => ⟨⟨hk.1.1, ⟨hk.1.2.1, ⟨hk.1.2.2.1, ⟨hk.2, ⟨hk.1.2.2.2.2.1, hk.1.2.2.2.2.2⟩⟩⟩⟩⟩, hk.1.2.2.2.1⟩)) hg hat)).2.2) KL78.out ((R_reads' (R_after (ok := (fun k_ => some k_ ≠ (.slice Ao25 t103.length co25 : Value).ownBlock ∧ some k_ ≠ (.slice Ao27 t106.length co27 : Value).ownBlock ∧ some k_ ≠ (.slice Ao39 y128.length co39 : Value).ownBlock ∧ some k_ ≠ (.slice Ao82 y150.length co82 : Value).ownBlock ∧ k_ ≠ gb135 ∧ k_ ≠ gb136)) (by (with_reducible repeat (first | apply R_alloc | apply R_drewN | apply R_drew)); exact R_mono HO117.out (fun _ hk => ⟨⟨hk.1.1, ⟨hk.1.2.1, ⟨hk.1.2.2.1, ⟨hk.2, ⟨hk.1.2.2.2.2.1, hk.1.2.2.2.2.2⟩⟩⟩⟩⟩, hk.1.2.2.2.1⟩)) hg hat)).2.1)))
               have n10_ := Am (ho)
               clear BK101
               clear HO105
               clear HO108
               clear HO117
               clear HO130
               clear BK135
               clear BK136
               clear HO152
               clear HB
               clear HR159
               clear HO133
               have BK101 := n0_
               have HO105 := n1_
               have HO108 := n2_
               have HO117 := n3_
               have HO130 := n4_
               have BK135 := n5_
               have BK136 := n6_
               have HO152 := n7_
               have HB := n8_
               have HR159 := n9_
               have HO155 := n10_
               clear n0_ n1_ n2_ n3_ n4_ n5_ n6_ n7_ n8_ n9_ n10_
               clear ho hb hg hat
               refine hK.out _ _ ⟨(blk_cell BK135.out 0).trans rfl, (blk_cell BK135.out 1).trans rfl, (blk_cell BK135.out 2).trans rfl, (blk_cell BK136.out 0).trans rfl, (blk_cell BK136.out 1).trans rfl, (blk_cell BK136.out 2).trans rfl⟩ (fun hHeld => ?_)
               clear hK K
               refine norm_ (a' := ?_) ?_ ?_
               rotate_left
               ·show Act.put _ (some 82) _ = _
                simp only [Act.put, List.setIfInBounds_toArray, List.set_cons_zero, List.set_cons_succ, i64_w, i32_w]
                rfl
               refine one_ (i := 9) (N := some 87) #[true, true, true, true, true, true, true, true, true, true, false] rfl rfl (one_of HT_.out (by kernel_rfl)) (by decide) (fun K hK => ?_)
               refine R_append_rows_step k31 (w0 := w) w.heap.size (by rfl) (.tmp 82) (.tmp 86) 22 31 (.agg #[(.int .i64 0), (.int .i64 0), (.string ⟨#[]⟩)]) 32 rfl Try.underlying22 info31 rfl (by decide) (by omega) v154 y153 y156 _ _ _ (fun k_ => some k_ ≠ (.slice Ao25 t103.length co25 : Value).ownBlock ∧ some k_ ≠ (.slice Ao27 t106.length co27 : Value).ownBlock ∧ some k_ ≠ (.slice (some ad134) y115.length co29 : Value).ownBlock ∧ some k_ ≠ (.slice Ao39 y128.length co39 : Value).ownBlock ∧ some k_ ≠ (.slice Ao82 y150.length co82 : Value).ownBlock ∧ k_ ≠ gb135 ∧ k_ ≠ gb136) (fun _ => False) rfl rfl ?aO ?aR (fun _ _ h => h) (fun _ h => h.elim) ?aF ?aB ?aS ?aL ?_
               (case aR => repeat (first | exact (by repeat (first | (with_reducible exact HR159.out) | (with_reducible refine C_alloc ?_ _) | (with_reducible refine C_drewN ?_ _) | (with_reducible refine C_drew ?_) | exact HR159.out)) | (with_reducible refine C_alloc ?_ _) | (with_reducible refine C_drewN ?_ _) | (with_reducible refine C_drew ?_)))
               (case aB => exact (by repeat (first | (with_reducible first | exact HB.out | apply below_alloc | apply pw_below_drewN | apply below_drew1 | refine below_set ?_ GE101.out | refine below_set ?_ GE135.out | refine below_set ?_ GE136.out) | exact HB.out)))
               (case aF => exact (fun k_ hk => ⟨Kd.fresh' (R_lt (by (with_reducible repeat (first | apply R_alloc | apply R_drewN | apply R_drew)); exact HO105.out)) k_ hk, Kd.fresh' (R_lt (by (with_reducible repeat (first | apply R_alloc | apply R_drewN | apply R_drew)); exact HO108.out)) k_ hk, Kd.fresh' (R_lt (by (with_reducible repeat (first | apply R_alloc | apply R_drewN | apply R_drew)); exact HO117.out)) k_ hk, Kd.fresh' (R_lt (by (with_reducible repeat (first | apply R_alloc | apply R_drewN | apply R_drew)); exact HO130.out)) k_ hk, Kd.fresh' (R_lt (by (with_reducible repeat (first | apply R_alloc | apply R_drewN | apply R_drew)); exact HO152.out)) k_ hk, Kd.freshB (g := gb135) (o := .cells #[.int .i64 ((rd_T31 y115 (ji10)).f0), .int .i64 (wrap64 (Int.tdiv ((rd_T31 y115 (ji10)).f1) 2)), .string ((rd_T31 y115 (ji10)).f2)] 31 (0, 0)) (by (with_reducible repeat (first | refine blk_drewN ?_ _ | refine blk_drew ?_ | refine blk_alloc ?_ _)); exact BK135.out) k_ hk, Kd.freshB (g := gb136) (o := .cells #[.int .i64 ((rd_T31 y115 (ji10)).f0), .int .i64 (wrap64 (((rd_T31 y115 (ji10)).f1) - (wrap64 (Int.tdiv ((rd_T31 y115 (ji10)).f1) 2)))), .string ((rd_T31 y115 (ji10)).f2)] 31 (0, 0)) (by (with_reducible repeat (first | refine blk_drewN ?_ _ | refine blk_drew ?_ | refine blk_alloc ?_ _)); exact BK136.out) k_ hk⟩))
               (case aO => exact (by (with_reducible repeat (first | apply R_alloc | apply R_drewN | apply R_drew)); exact HO155.out))
               (case aS => exact (below_size (by repeat (first | (with_reducible first | exact HB.out | apply below_alloc | apply pw_below_drewN | apply below_drew1 | refine below_set ?_ GE101.out | refine below_set ?_ GE135.out | refine below_set ?_ GE136.out) | exact HB.out))))
               (case aL => have := LMc67.out; omega)
               intro v161 w83 ho hb hg hat
               rw [← Ny160.out] at ho
               have n0_ := Am (blk_grown (g := gb101) (o := .cells #[.int .u8 a2_0, .int .u8 a2_1, .int .u8 a2_2] 29 (0, 0)) (by (with_reducible repeat (first | refine blk_drewN ?_ _ | refine blk_drew ?_ | refine blk_alloc ?_ _)); exact BK101.out) hg (R_ne HO155.out BK101.out (by decide)))
               have n1_ := Am (R_after (ok := (fun k_ => some k_ ≠ (.slice Ao27 t106.length co27 : Value).ownBlock ∧ some k_ ≠ (.slice (some ad134) y115.length co29 : Value).ownBlock ∧ some k_ ≠ (.slice Ao39 y128.length co39 : Value).ownBlock ∧ some k_ ≠ (.slice Ao82 y150.length co82 : Value).ownBlock ∧ k_ ≠ gb135 ∧ k_ ≠ gb136)) (by (with_reducible repeat (first | apply R_alloc | apply R_drewN | apply R_drew)); exact HO105.out) hg hat)
               have n2_ := Am (R_after (ok := (fun k_ => some k_ ≠ (.slice Ao25 t103.length co25 : Value).ownBlock ∧ some k_ ≠ (.slice (some ad134) y115.length co29 : Value).ownBlock ∧ some k_ ≠ (.slice Ao39 y128.length co39 : Value).ownBlock ∧ some k_ ≠ (.slice Ao82 y150.length co82 : Value).ownBlock ∧ k_ ≠ gb135 ∧ k_ ≠ gb136)) (by (with_reducible repeat (first | apply R_alloc | apply R_drewN | apply R_drew)); exact HO108.out) hg hat)
               have n3_ := Am (R_after (ok := (fun k_ => some k_ ≠ (.slice Ao25 t103.length co25 : Value).ownBlock ∧ some k_ ≠ (.slice Ao27 t106.length co27 : Value).ownBlock ∧ some k_ ≠ (.slice Ao39 y128.length co39 : Value).ownBlock ∧ some k_ ≠ (.slice Ao82 y150.length co82 : Value).ownBlock ∧ k_ ≠ gb135 ∧ k_ ≠ gb136)) (by (with_reducible repeat (first | apply R_alloc | apply R_drewN | apply R_drew)); exact HO117.out) hg hat)
               have n4_ := Am (R_after (ok := (fun k_ => some k_ ≠ (.slice Ao25 t103.length co25 : Value).ownBlock ∧ some k_ ≠ (.slice Ao27 t106.length co27 : Value).ownBlock ∧ some k_ ≠ (.slice (some ad134) y115.length co29 : Value).ownBlock ∧ some k_ ≠ (.slice Ao82 y150.length co82 : Value).ownBlock ∧ k_ ≠ gb135 ∧ k_ ≠ gb136)) (by (with_reducible repeat (first | apply R_alloc | apply R_drewN | apply R_drew)); exact HO130.out) hg hat)
               have n5_ := Am (blk_grown (g := gb135) (o := .cells #[.int .i64 ((rd_T31 y115 (ji10)).f0), .int .i64 (wrap64 (Int.tdiv ((rd_T31 y115 (ji10)).f1) 2)), .string ((rd_T31 y115 (ji10)).f2)] 31 (0, 0)) (by (with_reducible repeat (first | refine blk_drewN ?_ _ | refine blk_drew ?_ | refine blk_alloc ?_ _)); exact BK135.out) hg (R_away HO155.out (fun _ hk => hk.2.2.2.2.2.1)))
               have n6_ := Am (blk_grown (g := gb136) (o := .cells #[.int .i64 ((rd_T31 y115 (ji10)).f0), .int .i64 (wrap64 (((rd_T31 y115 (ji10)).f1) - (wrap64 (Int.tdiv ((rd_T31 y115 (ji10)).f1) 2)))), .string ((rd_T31 y115 (ji10)).f2)] 31 (0, 0)) (by (with_reducible repeat (first | refine blk_drewN ?_ _ | refine blk_drew ?_ | refine blk_alloc ?_ _)); exact BK136.out) hg (R_away HO155.out (fun _ hk => hk.2.2.2.2.2.2)))
               have n7_ := Am (R_after (ok := (fun k_ => some k_ ≠ (.slice Ao25 t103.length co25 : Value).ownBlock ∧ some k_ ≠ (.slice Ao27 t106.length co27 : Value).ownBlock ∧ some k_ ≠ (.slice (some ad134) y115.length co29 : Value).ownBlock ∧ some k_ ≠ (.slice Ao39 y128.length co39 : Value).ownBlock ∧ k_ ≠ gb135 ∧ k_ ≠ gb136)) (by (with_reducible repeat (first | apply R_alloc | apply R_drewN | apply R_drew)); exact HO152.out) hg hat)
               have n8_ := Am (hb)
               have n9_ := Am ((show Kd.C k31 w83 A78 y156.length y156 from by rw [Ny156.out, KA78.out]; exact C_drop (m := ((ji64) : Int).toNat) (c := co29) ((R_reads' (R_after (ok := (fun k_ => some k_ ≠ (.slice Ao25 t103.length co25 : Value).ownBlock ∧ some k_ ≠ (.slice Ao27 t106.length co27 : Value).ownBlock ∧ some k_ ≠ (.slice Ao39 y128.length co39 : Value).ownBlock ∧ some k_ ≠ (.slice Ao82 y150.length co82 : Value).ownBlock ∧ k_ ≠ gb135 ∧ k_ ≠ gb136)) (by (with_reducible repeat (first | apply R_alloc | apply R_drewN | apply R_drew)); exact HO117.out) hg hat)).2.2) KL78.out ((R_reads' (R_after (ok := (fun k_ => some k_ ≠ (.slice Ao25 t103.length co25 : Value).ownBlock ∧ some k_ ≠ (.slice Ao27 t106.length co27 : Value).ownBlock ∧ some k_ ≠ (.slice Ao39 y128.length co39 : Value).ownBlock ∧ some k_ ≠ (.slice Ao82 y150.length co82 : Value).ownBlock ∧ k_ ≠ gb135 ∧ k_ ≠ gb136)) (by (with_reducible repeat (first | apply R_alloc | apply R_drewN | apply R_drew)); exact HO117.out) hg hat)).2.1)))
               have n10_ := Am (ho)
               clear BK101
               clear HO105
               clear HO108
               clear HO117
               clear HO130
               clear BK135
               clear BK136
               clear HO152
               clear HB
               clear HR159
               clear HO155
               have BK101 := n0_
               have HO105 := n1_
               have HO108 := n2_
               have HO117 := n3_
               have HO130 := n4_
               have BK135 := n5_
               have BK136 := n6_
               have HO152 := n7_
               have HB := n8_
               have HR159 := n9_
               have HO162 := n10_
               clear n0_ n1_ n2_ n3_ n4_ n5_ n6_ n7_ n8_ n9_ n10_
               clear ho hb hg hat
               refine hK.out _ _ ⟨(blk_cell BK135.out 0).trans rfl, (blk_cell BK135.out 1).trans rfl, (blk_cell BK135.out 2).trans rfl, (blk_cell BK136.out 0).trans rfl, (blk_cell BK136.out 1).trans rfl, (blk_cell BK136.out 2).trans rfl⟩ (fun hHeld => ?_)
               clear hK K
               refine norm_ (a' := ?_) ?_ ?_
               rotate_left
               ·show Act.put _ (some 87) _ = _
                simp only [Act.put, List.setIfInBounds_toArray, List.set_cons_zero, List.set_cons_succ, i64_w, i32_w]
                rfl
               refine pure_ (i := 10) (N := some 12) (v := ?_) (a' := ?_) #[true, true, true, true, true, true, true, true, true, true, true] rfl rfl (any_of HT_.out (by kernel_rfl)) (fun _ _ _ h => h) (Or.inl ⟨by rfl, ?_⟩) ?_ ?_
               rotate_left
               ·intro w'
                go_simp
                with_reducible rfl
               rotate_left
               ·simp only [Act.put, List.setIfInBounds_toArray, List.set_cons_zero, List.set_cons_succ, i64_w, i32_w]
                rfl
               refine done_ (done_of HT_.out (by kernel_rfl)) ?_
               try go_wp2
               go_meet
               case rel => exact ⟨_, (y160), H', ⟨by first | omega | exact Nat.le_refl _⟩, ⟨by (with_reducible repeat (first | apply R_alloc | apply R_drewN | apply R_drew)); exact R_mono HO105.out (fun _ hk => ⟨hk.1.1, ⟨hk.1.2.1, hk.2⟩⟩)⟩, ⟨by (with_reducible repeat (first | apply R_alloc | apply R_drewN | apply R_drew)); exact R_mono HO108.out (fun _ hk => ⟨hk.1.1, ⟨hk.1.2.1, hk.2⟩⟩)⟩, ⟨by (with_reducible repeat (first | apply R_alloc | apply R_drewN | apply R_drew)); exact R_mono HO117.out (fun _ hk => ⟨hk.1.1, ⟨hk.1.2.1, hk.2⟩⟩)⟩, ⟨by (with_reducible repeat (first | apply R_alloc | apply R_drewN | apply R_drew)); exact R_mono HO162.out (fun _ hk => ⟨hk.1, ⟨hk.2.1, hk.2.2.1⟩⟩)⟩, ⟨by (with_reducible repeat (first | refine blk_drewN ?_ _ | refine blk_drew ?_ | refine blk_alloc ?_ _)); exact BK101.out⟩, ⟨by repeat (first | (with_reducible first | exact HB.out | apply below_alloc | apply pw_below_drewN | apply below_drew1 | refine below_set ?_ GE101.out | refine below_set ?_ GE135.out | refine below_set ?_ GE136.out) | exact HB.out)⟩⟩
              ·rw [if_neg c67] at H
               exact absurd H (by simp)
             ·rw [if_neg c66] at H
              exact absurd H (by simp)
            ·rw [if_neg c65] at H
             exact absurd H (by simp)
           ·rw [if_neg c63] at H
            exact absurd H (by simp)
         ·rw [if_neg c40] at H
          have c40b0 : decide ((ji10) < (y115.length : Int)) = false := decide_eq_false c40
          clear c40
          (first | rw [c40b0] | (simp only [i64_w, i32_w]; rw [c40b0]) | skip)
          have H' := Am H
          clear H
          go_wp2
          go_meet
          case rel => exact ⟨_, (y131), H', ⟨by first | omega | exact Nat.le_refl _⟩, ⟨by (with_reducible repeat (first | apply R_alloc | apply R_drewN | apply R_drew)); exact R_mono HO105.out (fun _ hk => ⟨hk.1.1, ⟨hk.1.2.1, hk.2⟩⟩)⟩, ⟨by (with_reducible repeat (first | apply R_alloc | apply R_drewN | apply R_drew)); exact R_mono HO108.out (fun _ hk => ⟨hk.1.1, ⟨hk.1.2.1, hk.2⟩⟩)⟩, ⟨by (with_reducible repeat (first | apply R_alloc | apply R_drewN | apply R_drew)); exact R_mono HO117.out (fun _ hk => ⟨hk.1.1, ⟨hk.1.2.1, hk.2⟩⟩)⟩, ⟨by (with_reducible repeat (first | apply R_alloc | apply R_drewN | apply R_drew)); exact R_mono HO133.out (fun _ hk => ⟨hk.1, ⟨hk.2.1, hk.2.2.1⟩⟩)⟩, ⟨by (with_reducible repeat (first | refine blk_drewN ?_ _ | refine blk_drew ?_ | refine blk_alloc ?_ _)); exact BK101.out⟩, ⟨by repeat (first | (with_reducible first | exact HB.out | apply below_alloc | apply pw_below_drewN | apply below_drew1 | refine below_set ?_ GE101.out) | exact HB.out)⟩⟩
        case rest =>
         clear HC15
         try clear c1
         try clear p1
         try clear q1
         try clear hx1
         try clear p2
         try clear c3
         try clear c4
         try clear q5
         try clear c6
         try clear p6
         try clear c7
         try clear q7
         try clear p13
         try clear q13
         try clear hx13
         try clear c40
         try clear c40b0
         try clear c41
         try clear c41b0
         try clear c41b1
         try clear c42
         try clear c44
         try clear c45
         try clear c46
         try clear q57
         try clear c63
         try clear p64
         try clear c65
         try clear c65b0
         try clear c65b1
         try clear c66
         try clear c66b0
         try clear c66b1
         try clear c67
         try clear c69
         try clear c72
         try clear c73
         try clear c78
         try clear q78
         try clear hcz70_0
         try clear hcz70_1
         try clear hcz70_2
         try clear hcz74_0
         try clear hcz74_1
         try clear hcz74_2
         try clear hcz75_0
         try clear hcz75_1
         try clear hcz75_2
         try clear hfz70_0
         try clear hfz70_1
         try clear hfz70_2
         try clear hfz74_0
         try clear hfz74_1
         try clear hfz74_2
         try clear hfz75_0
         try clear hfz75_1
         try clear hfz75_2
         try clear hx134_0
         try clear hx134_1
         try clear hx134_2
         try clear p134
         try clear q078
         try clear q134
         try clear q57
         try clear q78
         obtain ⟨kq, x12_14, HA, HJ14, HO_8, HO_9, HO_10, HO_12, BK101, HB⟩ := hcut
         cases kq with
         | zero => exact absurd HA.out (by simp [epitomelaw05_NormalParts.j0])
         | succ kj14 =>
          have H := HA.out
          clear HA
          simp only [epitomelaw05_NormalParts.j0] at H
          replace H := Option.bind_eq_some_iff.mp H
          obtain ⟨t163, A840, H⟩ := H
          have A84 := Am A840
          clear A840
          by_cases c85 : t102 = true
          ·subst c85
           have H1 : ((normal_Of.f kj14 x12_14).bind fun t166 => ((epitomeref04_Same.f kj14 t166 t163).bind fun t169 => (if t169 = true then ((normal_Of.f kj14 t103).bind fun t170 => ((normal_Of.f kj14 t106).bind fun t173 => (if t170.length + t173.length < 4398046511104 then ((normal_Of.f kj14 (t170 ++ t173)).bind fun t179 => ((epitomeref04_Same.f kj14 t179 t163).bind fun t182 => (some t182))) else (none)))) else (some false)))) = some r := by rw [if_pos rfl] at H; exact H
           clear H
           have H := H1
           clear H1
           replace H := Option.bind_eq_some_iff.mp H
           obtain ⟨t166, A860, H⟩ := H
           have A86 := Am A860
           clear A860
           replace H := Option.bind_eq_some_iff.mp H
           obtain ⟨t169, A870, H⟩ := H
           have A87 := Am A870
           clear A870
           by_cases c88 : t169 = true
           ·subst c88
            have H1 : ((normal_Of.f kj14 t103).bind fun t170 => ((normal_Of.f kj14 t106).bind fun t173 => (if t170.length + t173.length < 4398046511104 then ((normal_Of.f kj14 (t170 ++ t173)).bind fun t179 => ((epitomeref04_Same.f kj14 t179 t163).bind fun t182 => (some t182))) else (none)))) = some r := by rw [if_pos rfl] at H; exact H
            clear H
            have H := H1
            clear H1
            replace H := Option.bind_eq_some_iff.mp H
            obtain ⟨t170, A890, H⟩ := H
            have A89 := Am A890
            clear A890
            replace H := Option.bind_eq_some_iff.mp H
            obtain ⟨t173, A900, H⟩ := H
            have A90 := Am A900
            clear A900
            by_cases c91 : t170.length + t173.length < 4398046511104
            ·rw [if_pos c91] at H
             have LMc91 := Am c91
             clear c91
             obtain ⟨y176, hy176⟩ : ∃ y_ : List (S31), y_ = (t170 ++ t173) := ⟨_, rfl⟩
             replace H : ((normal_Of.f kj14 y176).bind fun t179 => ((epitomeref04_Same.f kj14 t179 t163).bind fun t182 => (some t182))) = some r := by first | (rw [hy176]; with_reducible exact H) | (have H2_ := (Option.bind_some _ _).symm.trans H; rw [hy176]; with_reducible exact H2_) | (have H2_ := (Option.bind_some _ _).symm.trans H; with_reducible exact H2_) | with_reducible exact H | (rw [hy176]; exact H) | exact H
             have Ny176 := Am hy176
             clear hy176
             replace H := Option.bind_eq_some_iff.mp H
             obtain ⟨t179, A920, H⟩ := H
             replace H : ((epitomeref04_Same.f kj14 t179 t163).bind fun t182 => (some t182)) = some r := H
             have A92 := Am A920
             clear A920
             replace H := Option.bind_eq_some_iff.mp H
             obtain ⟨t182, A930, H⟩ := H
             replace H : (some t182) = some r := H
             have A93 := Am A930
             clear A930
             obtain rfl := Option.some.inj H
             go_wp2_with (first | ((with_reducible refine gate_callee (f := 9) rfl ?_); refine goesL_ (some 89) rfl rfl Try.func9 (by kernel_rfl) rfl #[.slice Ao29 y115.length co29] rfl (by (try simp only [List.map_toArray, List.map_cons, List.map_nil]); first | done | rfl | (simp only [List.length_drop, List.length_take]; rfl)) ?_; (with_reducible refine (normal_Of.calls kj14 _ _ y115 t163 _ ?side1 ?side2 A84.out).mono ?_); (case side1 => repeat (first | exact (R_reads' HO_10.out).2.2 | (with_reducible refine C_alloc ?_ _) | (with_reducible refine C_drewN ?_ _) | (with_reducible refine C_drew ?_))); (case side2 => exact (R_reads' HO_10.out).2.1); rintro e w94 ⟨v164, rfl, ho0, hb⟩; refine ⟨_, rfl, ?_⟩; have n0_ := Am (R_elder' (by (with_reducible repeat (first | apply R_alloc | apply R_drewN | apply R_drew)); exact HO_8.out) (R_base ho0) hb); have n1_ := Am (R_elder' (by (with_reducible repeat (first | apply R_alloc | apply R_drewN | apply R_drew)); exact HO_9.out) (R_base ho0) hb); have n2_ := Am (R_elder' (by (with_reducible repeat (first | apply R_alloc | apply R_drewN | apply R_drew)); exact HO_10.out) (R_base ho0) hb); have n3_ := Am (R_elder' (by (with_reducible repeat (first | apply R_alloc | apply R_drewN | apply R_drew)); exact HO_12.out) (R_base ho0) hb); have n4_ := Am (R_lower (R_new' (R_new' (R_new' (R_new' ho0 (R_lt (by (with_reducible repeat (first | apply R_alloc | apply R_drewN | apply R_drew)); exact HO_8.out))) (R_lt (by (with_reducible repeat (first | apply R_alloc | apply R_drewN | apply R_drew)); exact HO_9.out))) (R_lt (by (with_reducible repeat (first | apply R_alloc | apply R_drewN | apply R_drew)); exact HO_10.out))) (R_lt (by (with_reducible repeat (first | apply R_alloc | apply R_drewN | apply R_drew)); exact HO_12.out))) (below_size (by repeat (first | (with_reducible first | exact HB.out | apply below_alloc | apply pw_below_drewN | apply below_drew1 | refine below_set ?_ GE101.out) | exact HB.out)))); have n5_ := Am (blk_below (g := gb101) (o := .cells #[.int .u8 a2_0, .int .u8 a2_1, .int .u8 a2_2] 29 (0, 0)) (by (with_reducible repeat (first | refine blk_drewN ?_ _ | refine blk_drew ?_ | refine blk_alloc ?_ _)); exact BK101.out) hb); have n6_ := Am (below_step (by repeat (first | (with_reducible first | exact HB.out | apply below_alloc | apply pw_below_drewN | apply below_drew1 | refine below_set ?_ GE101.out) | exact HB.out)) hb); clear HO_8; clear HO_9; clear HO_10; clear HO_12; clear BK101; clear HB; have HO_8 := n0_; have HO_9 := n1_; have HO_10 := n2_; have HO_12 := n3_; have HO165 := n4_; have BK101 := n5_; have HB := n6_; clear n0_ n1_ n2_ n3_ n4_ n5_ n6_; (try clear hb); (try clear hb2); (try clear hk); (try clear hi); (try clear ho0); obtain ⟨Ao95, co95, eo95⟩ := R_slice HO_12.out; subst eo95; (try clear A84)) | (go_at_call 9; (with_reducible refine (normal_Of.calls kj14 _ _ x12_14 t166 _ ?side1 ?side2 A86.out).mono ?_); (case side1 => repeat (first | exact (R_reads' HO_12.out).2.2 | (with_reducible refine C_alloc ?_ _) | (with_reducible refine C_drewN ?_ _) | (with_reducible refine C_drew ?_))); (case side2 => exact (R_reads' HO_12.out).2.1); rintro e w96 ⟨v167, rfl, ho0, hb⟩; have n0_ := Am (R_elder' (by (with_reducible repeat (first | apply R_alloc | apply R_drewN | apply R_drew)); exact HO_8.out) (R_base ho0) hb); have n1_ := Am (R_elder' (by (with_reducible repeat (first | apply R_alloc | apply R_drewN | apply R_drew)); exact HO_9.out) (R_base ho0) hb); have n2_ := Am (R_elder' (by (with_reducible repeat (first | apply R_alloc | apply R_drewN | apply R_drew)); exact HO_10.out) (R_base ho0) hb); have n3_ := Am (R_elder' (by (with_reducible repeat (first | apply R_alloc | apply R_drewN | apply R_drew)); exact HO_12.out) (R_base ho0) hb); have n4_ := Am (R_elder' (by (with_reducible repeat (first | apply R_alloc | apply R_drewN | apply R_drew)); exact HO165.out) (R_base ho0) hb); have n5_ := Am (R_lower (R_new' (R_new' (R_new' (R_new' (R_new' ho0 (R_lt (by (with_reducible repeat (first | apply R_alloc | apply R_drewN | apply R_drew)); exact HO_8.out))) (R_lt (by (with_reducible repeat (first | apply R_alloc | apply R_drewN | apply R_drew)); exact HO_9.out))) (R_lt (by (with_reducible repeat (first | apply R_alloc | apply R_drewN | apply R_drew)); exact HO_10.out))) (R_lt (by (with_reducible repeat (first | apply R_alloc | apply R_drewN | apply R_drew)); exact HO_12.out))) (R_lt (by (with_reducible repeat (first | apply R_alloc | apply R_drewN | apply R_drew)); exact HO165.out))) (below_size (by repeat (first | (with_reducible first | exact HB.out | apply below_alloc | apply pw_below_drewN | apply below_drew1 | refine below_set ?_ GE101.out) | exact HB.out)))); have n6_ := Am (blk_below (g := gb101) (o := .cells #[.int .u8 a2_0, .int .u8 a2_1, .int .u8 a2_2] 29 (0, 0)) (by (with_reducible repeat (first | refine blk_drewN ?_ _ | refine blk_drew ?_ | refine blk_alloc ?_ _)); exact BK101.out) hb); have n7_ := Am (below_step (by repeat (first | (with_reducible first | exact HB.out | apply below_alloc | apply pw_below_drewN | apply below_drew1 | refine below_set ?_ GE101.out) | exact HB.out)) hb); clear HO_8; clear HO_9; clear HO_10; clear HO_12; clear HO165; clear BK101; clear HB; have HO_8 := n0_; have HO_9 := n1_; have HO_10 := n2_; have HO_12 := n3_; have HO165 := n4_; have HO168 := n5_; have BK101 := n6_; have HB := n7_; clear n0_ n1_ n2_ n3_ n4_ n5_ n6_ n7_; (try clear hb); (try clear hb2); (try clear hk); (try clear hi); (try clear ho0); obtain ⟨Ao97, co97, eo97⟩ := R_slice HO168.out; subst eo97; obtain ⟨Ao98, co98, eo98⟩ := R_slice HO165.out; subst eo98; (try clear A86)) | (go_at_call 10; (with_reducible refine (epitomeref04_Same.calls kj14 _ _ t166 _ _ t163 true _ ?side1 ?side2 ?side3 ?side4 A87.out).mono ?_); (case side1 => repeat (first | exact (R_reads' HO168.out).2.2 | (with_reducible refine C_alloc ?_ _) | (with_reducible refine C_drewN ?_ _) | (with_reducible refine C_drew ?_))); (case side2 => exact (R_reads' HO168.out).2.1); (case side3 => repeat (first | exact (R_reads' HO165.out).2.2 | (with_reducible refine C_alloc ?_ _) | (with_reducible refine C_drewN ?_ _) | (with_reducible refine C_drew ?_))); (case side4 => exact (R_reads' HO165.out).2.1); rintro e w' ⟨rfl, ⟨nd, rfl⟩⟩; (try clear A87)) | (go_at_call 9; (with_reducible refine (normal_Of.calls kj14 _ _ t103 t170 _ ?side1 ?side2 A89.out).mono ?_); (case side1 => repeat (first | exact (R_reads' HO_8.out).2.2 | (with_reducible refine C_alloc ?_ _) | (with_reducible refine C_drewN ?_ _) | (with_reducible refine C_drew ?_))); (case side2 => exact (R_reads' HO_8.out).2.1); rintro e w99 ⟨v171, rfl, ho0, hb⟩; have n0_ := Am (R_elder' (by (with_reducible repeat (first | apply R_alloc | apply R_drewN | apply R_drew)); exact HO_8.out) (R_base ho0) hb); have n1_ := Am (R_elder' (by (with_reducible repeat (first | apply R_alloc | apply R_drewN | apply R_drew)); exact HO_9.out) (R_base ho0) hb); have n2_ := Am (R_elder' (by (with_reducible repeat (first | apply R_alloc | apply R_drewN | apply R_drew)); exact HO_10.out) (R_base ho0) hb); have n3_ := Am (R_elder' (by (with_reducible repeat (first | apply R_alloc | apply R_drewN | apply R_drew)); exact HO_12.out) (R_base ho0) hb); have n4_ := Am (R_elder' (by (with_reducible repeat (first | apply R_alloc | apply R_drewN | apply R_drew)); exact HO165.out) (R_base ho0) hb); have n5_ := Am (R_elder' (by (with_reducible repeat (first | apply R_alloc | apply R_drewN | apply R_drew)); exact HO168.out) (R_base ho0) hb); have n6_ := Am (R_lower (R_new' (R_new' (R_new' (R_new' (R_new' (R_new' ho0 (R_lt (by (with_reducible repeat (first | apply R_alloc | apply R_drewN | apply R_drew)); exact HO_8.out))) (R_lt (by (with_reducible repeat (first | apply R_alloc | apply R_drewN | apply R_drew)); exact HO_9.out))) (R_lt (by (with_reducible repeat (first | apply R_alloc | apply R_drewN | apply R_drew)); exact HO_10.out))) (R_lt (by (with_reducible repeat (first | apply R_alloc | apply R_drewN | apply R_drew)); exact HO_12.out))) (R_lt (by (with_reducible repeat (first | apply R_alloc | apply R_drewN | apply R_drew)); exact HO165.out))) (R_lt (by (with_reducible repeat (first | apply R_alloc | apply R_drewN | apply R_drew)); exact HO168.out))) (below_size (by repeat (first | (with_reducible first | exact HB.out | apply below_alloc | apply pw_below_drewN | apply below_drew1 | refine below_set ?_ GE101.out) | exact HB.out)))); have n7_ := Am (blk_below (g := gb101) (o := .cells #[.int .u8 a2_0, .int .u8 a2_1, .int .u8 a2_2] 29 (0, 0)) (by (with_reducible repeat (first | refine blk_drewN ?_ _ | refine blk_drew ?_ | refine blk_alloc ?_ _)); exact BK101.out) hb); have n8_ := Am (below_step (by repeat (first | (with_reducible first | exact HB.out | apply below_alloc | apply pw_below_drewN | apply below_drew1 | refine below_set ?_ GE101.out) | exact HB.out)) hb); clear HO_8; clear HO_9; clear HO_10; clear HO_12; clear HO165; clear HO168; clear BK101; clear HB; have HO_8 := n0_; have HO_9 := n1_; have HO_10 := n2_; have HO_12 := n3_; have HO165 := n4_; have HO168 := n5_; have HO172 := n6_; have BK101 := n7_; have HB := n8_; clear n0_ n1_ n2_ n3_ n4_ n5_ n6_ n7_ n8_; (try clear hb); (try clear hb2); (try clear hk); (try clear hi); (try clear ho0); (try clear A89)) | (go_at_call 9; (with_reducible refine (normal_Of.calls kj14 _ _ t106 t173 _ ?side1 ?side2 A90.out).mono ?_); (case side1 => repeat (first | exact (R_reads' HO_9.out).2.2 | (with_reducible refine C_alloc ?_ _) | (with_reducible refine C_drewN ?_ _) | (with_reducible refine C_drew ?_))); (case side2 => exact (R_reads' HO_9.out).2.1); rintro e w100 ⟨v174, rfl, ho0, hb⟩; have n0_ := Am (R_elder' (by (with_reducible repeat (first | apply R_alloc | apply R_drewN | apply R_drew)); exact HO_8.out) (R_base ho0) hb); have n1_ := Am (R_elder' (by (with_reducible repeat (first | apply R_alloc | apply R_drewN | apply R_drew)); exact HO_9.out) (R_base ho0) hb); have n2_ := Am (R_elder' (by (with_reducible repeat (first | apply R_alloc | apply R_drewN | apply R_drew)); exact HO_10.out) (R_base ho0) hb); have n3_ := Am (R_elder' (by (with_reducible repeat (first | apply R_alloc | apply R_drewN | apply R_drew)); exact HO_12.out) (R_base ho0) hb); have n4_ := Am (R_elder' (by (with_reducible repeat (first | apply R_alloc | apply R_drewN | apply R_drew)); exact HO165.out) (R_base ho0) hb); have n5_ := Am (R_elder' (by (with_reducible repeat (first | apply R_alloc | apply R_drewN | apply R_drew)); exact HO168.out) (R_base ho0) hb); have n6_ := Am (R_elder' (by (with_reducible repeat (first | apply R_alloc | apply R_drewN | apply R_drew)); exact HO172.out) (R_base ho0) hb); have n7_ := Am (R_lower (R_new' (R_new' (R_new' (R_new' (R_new' (R_new' (R_new' ho0 (R_lt (by (with_reducible repeat (first | apply R_alloc | apply R_drewN | apply R_drew)); exact HO_8.out))) (R_lt (by (with_reducible repeat (first | apply R_alloc | apply R_drewN | apply R_drew)); exact HO_9.out))) (R_lt (by (with_reducible repeat (first | apply R_alloc | apply R_drewN | apply R_drew)); exact HO_10.out))) (R_lt (by (with_reducible repeat (first | apply R_alloc | apply R_drewN | apply R_drew)); exact HO_12.out))) (R_lt (by (with_reducible repeat (first | apply R_alloc | apply R_drewN | apply R_drew)); exact HO165.out))) (R_lt (by (with_reducible repeat (first | apply R_alloc | apply R_drewN | apply R_drew)); exact HO168.out))) (R_lt (by (with_reducible repeat (first | apply R_alloc | apply R_drewN | apply R_drew)); exact HO172.out))) (below_size (by repeat (first | (with_reducible first | exact HB.out | apply below_alloc | apply pw_below_drewN | apply below_drew1 | refine below_set ?_ GE101.out) | exact HB.out)))); have n8_ := Am (blk_below (g := gb101) (o := .cells #[.int .u8 a2_0, .int .u8 a2_1, .int .u8 a2_2] 29 (0, 0)) (by (with_reducible repeat (first | refine blk_drewN ?_ _ | refine blk_drew ?_ | refine blk_alloc ?_ _)); exact BK101.out) hb); have n9_ := Am (below_step (by repeat (first | (with_reducible first | exact HB.out | apply below_alloc | apply pw_below_drewN | apply below_drew1 | refine below_set ?_ GE101.out) | exact HB.out)) hb); clear HO_8; clear HO_9; clear HO_10; clear HO_12; clear HO165; clear HO168; clear HO172; clear BK101; clear HB; have HO_8 := n0_; have HO_9 := n1_; have HO_10 := n2_; have HO_12 := n3_; have HO165 := n4_; have HO168 := n5_; have HO172 := n6_; have HO175 := n7_; have BK101 := n8_; have HB := n9_; clear n0_ n1_ n2_ n3_ n4_ n5_ n6_ n7_ n8_ n9_; (try clear hb); (try clear hb2); (try clear hk); (try clear hi); (try clear ho0); obtain ⟨Ao102, co102, eo102⟩ := R_slice HO175.out; subst eo102; (try clear A90)) | ((with_reducible refine gate_builtin (b := .append) (xs := #[.tmp 99, .tmp 101]) rfl ?_); (try (refine gate_guard (by rfl) ?_; dsimp only)); at_builtin; refine R_append_rows k31 (w0 := w) w.heap.size rfl (.tmp 99) (.tmp 101) 22 31 (.agg #[(.int .i64 0), (.int .i64 0), (.string ⟨#[]⟩)]) 32 rfl Try.underlying22 info31 rfl (by decide) (by omega) v171 t170 t173 _ _ _ (fun k_ => some k_ ≠ (.slice Ao25 t103.length co25 : Value).ownBlock ∧ some k_ ≠ (.slice Ao27 t106.length co27 : Value).ownBlock ∧ some k_ ≠ (.slice Ao29 y115.length co29 : Value).ownBlock ∧ some k_ ≠ (.slice Ao95 x12_14.length co95 : Value).ownBlock ∧ some k_ ≠ (.slice Ao98 t163.length co98 : Value).ownBlock ∧ some k_ ≠ (.slice Ao97 t166.length co97 : Value).ownBlock ∧ some k_ ≠ (.slice Ao102 t173.length co102 : Value).ownBlock) (fun _ => False) rfl rfl ?aO ?aR (fun _ _ h => h) (fun _ h => h.elim) ?aF ?aB ?aS ?aL ?_; (case aR => repeat (first | exact (R_reads' HO175.out).2.2 | (with_reducible refine C_alloc ?_ _) | (with_reducible refine C_drewN ?_ _) | (with_reducible refine C_drew ?_))); (case aB => exact (by repeat (first | (with_reducible first | exact HB.out | apply below_alloc | apply pw_below_drewN | apply below_drew1 | refine below_set ?_ GE101.out) | exact HB.out))); (case aF => exact (fun k_ hk => ⟨Kd.fresh' (R_lt (by (with_reducible repeat (first | apply R_alloc | apply R_drewN | apply R_drew)); exact HO_8.out)) k_ hk, Kd.fresh' (R_lt (by (with_reducible repeat (first | apply R_alloc | apply R_drewN | apply R_drew)); exact HO_9.out)) k_ hk, Kd.fresh' (R_lt (by (with_reducible repeat (first | apply R_alloc | apply R_drewN | apply R_drew)); exact HO_10.out)) k_ hk, Kd.fresh' (R_lt (by (with_reducible repeat (first | apply R_alloc | apply R_drewN | apply R_drew)); exact HO_12.out)) k_ hk, Kd.fresh' (R_lt (by (with_reducible repeat (first | apply R_alloc | apply R_drewN | apply R_drew)); exact HO165.out)) k_ hk, Kd.fresh' (R_lt (by (with_reducible repeat (first | apply R_alloc | apply R_drewN | apply R_drew)); exact HO168.out)) k_ hk, Kd.fresh' (R_lt (by (with_reducible repeat (first | apply R_alloc | apply R_drewN | apply R_drew)); exact HO175.out)) k_ hk⟩)); (case aO => exact (by (with_reducible repeat (first | apply R_alloc | apply R_drewN | apply R_drew)); exact R_mono HO172.out (fun _ hk => ⟨hk.1.1.1.1.1.1.2, ⟨hk.1.1.1.1.1.2, ⟨hk.1.1.1.1.2, ⟨hk.1.1.1.2, ⟨hk.1.1.2, ⟨hk.1.2, hk.2⟩⟩⟩⟩⟩⟩))); (case aS => exact (below_size (by repeat (first | (with_reducible first | exact HB.out | apply below_alloc | apply pw_below_drewN | apply below_drew1 | refine below_set ?_ GE101.out) | exact HB.out)))); (case aL => have := LMc91.out; omega); intro v177 w101 ho hb hg hat; rw [← Ny176.out] at ho; have n0_ := Am (R_after (ok := (fun k_ => some k_ ≠ (.slice Ao27 t106.length co27 : Value).ownBlock ∧ some k_ ≠ (.slice Ao29 y115.length co29 : Value).ownBlock ∧ some k_ ≠ (.slice Ao95 x12_14.length co95 : Value).ownBlock ∧ some k_ ≠ (.slice Ao98 t163.length co98 : Value).ownBlock ∧ some k_ ≠ (.slice Ao97 t166.length co97 : Value).ownBlock ∧ some k_ ≠ (.slice Ao102 t173.length co102 : Value).ownBlock)) (by (with_reducible repeat (first | apply R_alloc | apply R_drewN | apply R_drew)); exact R_mono HO_8.out (fun _ hk => ⟨⟨hk.1.1.1.1.1, ⟨hk.1.1.1.1.2.1, ⟨hk.1.1.1.1.2.2, ⟨hk.1.1.1.2, ⟨hk.1.1.2, hk.2⟩⟩⟩⟩⟩, hk.1.2⟩)) hg hat); have n1_ := Am (R_after (ok := (fun k_ => some k_ ≠ (.slice Ao25 t103.length co25 : Value).ownBlock ∧ some k_ ≠ (.slice Ao29 y115.length co29 : Value).ownBlock ∧ some k_ ≠ (.slice Ao95 x12_14.length co95 : Value).ownBlock ∧ some k_ ≠ (.slice Ao98 t163.length co98 : Value).ownBlock ∧ some k_ ≠ (.slice Ao97 t166.length co97 : Value).ownBlock ∧ some k_ ≠ (.slice Ao102 t173.length co102 : Value).ownBlock)) (by (with_reducible repeat (first | apply R_alloc | apply R_drewN | apply R_drew)); exact R_mono HO_9.out (fun _ hk => ⟨⟨hk.1.1.1.1.1, ⟨hk.1.1.1.1.2.1, ⟨hk.1.1.1.1.2.2, ⟨hk.1.1.1.2, ⟨hk.1.1.2, hk.2⟩⟩⟩⟩⟩, hk.1.2⟩)) hg hat); have n2_ := Am (R_after (ok := (fun k_ => some k_ ≠ (.slice Ao25 t103.length co25 : Value).ownBlock ∧ some k_ ≠ (.slice Ao27 t106.length co27 : Value).ownBlock ∧ some k_ ≠ (.slice Ao95 x12_14.length co95 : Value).ownBlock ∧ some k_ ≠ (.slice Ao98 t163.length co98 : Value).ownBlock ∧ some k_ ≠ (.slice Ao97 t166.length co97 : Value).ownBlock ∧ some k_ ≠ (.slice Ao102 t173.length co102 : Value).ownBlock)) (by (with_reducible repeat (first | apply R_alloc | apply R_drewN | apply R_drew)); exact R_mono HO_10.out (fun _ hk => ⟨⟨hk.1.1.1.1.1, ⟨hk.1.1.1.1.2.1, ⟨hk.1.1.1.1.2.2, ⟨hk.1.1.1.2, ⟨hk.1.1.2, hk.2⟩⟩⟩⟩⟩, hk.1.2⟩)) hg hat); have n3_ := Am (R_after (ok := (fun k_ => some k_ ≠ (.slice Ao25 t103.length co25 : Value).ownBlock ∧ some k_ ≠ (.slice Ao27 t106.length co27 : Value).ownBlock ∧ some k_ ≠ (.slice Ao29 y115.length co29 : Value).ownBlock ∧ some k_ ≠ (.slice Ao98 t163.length co98 : Value).ownBlock ∧ some k_ ≠ (.slice Ao97 t166.length co97 : Value).ownBlock ∧ some k_ ≠ (.slice Ao102 t173.length co102 : Value).ownBlock)) (by (with_reducible repeat (first | apply R_alloc | apply R_drewN | apply R_drew)); exact R_mono HO_12.out (fun _ hk => ⟨⟨hk.1.1.1.1.1, ⟨hk.1.1.1.1.2.1, ⟨hk.1.1.1.1.2.2, ⟨hk.1.1.1.2, ⟨hk.1.1.2, hk.2⟩⟩⟩⟩⟩, hk.1.2⟩)) hg hat); have n4_ := Am (blk_grown (g := gb101) (o := .cells #[.int .u8 a2_0, .int .u8 a2_1, .int .u8 a2_2] 29 (0, 0)) (by (with_reducible repeat (first | refine blk_drewN ?_ _ | refine blk_drew ?_ | refine blk_alloc ?_ _)); exact BK101.out) hg (R_ne HO172.out BK101.out (by decide))); have n5_ := Am (R_after (ok := (fun k_ => some k_ ≠ (.slice Ao25 t103.length co25 : Value).ownBlock ∧ some k_ ≠ (.slice Ao27 t106.length co27 : Value).ownBlock ∧ some k_ ≠ (.slice Ao29 y115.length co29 : Value).ownBlock ∧ some k_ ≠ (.slice Ao95 x12_14.length co95 : Value).ownBlock ∧ some k_ ≠ (.slice Ao97 t166.length co97 : Value).ownBlock ∧ some k_ ≠ (.slice Ao102 t173.length co102 : Value).ownBlock)) (by (with_reducible repeat (first | apply R_alloc | apply R_drewN | apply R_drew)); exact R_mono HO165.out (fun _ hk => ⟨⟨hk.1.1.1.1.1.1.2, ⟨hk.1.1.1.1.1.2, ⟨hk.1.1.1.1.2, ⟨hk.1.1.1.2, ⟨hk.1.1.2, hk.2⟩⟩⟩⟩⟩, hk.1.2⟩)) hg hat); have n6_ := Am (R_after (ok := (fun k_ => some k_ ≠ (.slice Ao25 t103.length co25 : Value).ownBlock ∧ some k_ ≠ (.slice Ao27 t106.length co27 : Value).ownBlock ∧ some k_ ≠ (.slice Ao29 y115.length co29 : Value).ownBlock ∧ some k_ ≠ (.slice Ao95 x12_14.length co95 : Value).ownBlock ∧ some k_ ≠ (.slice Ao98 t163.length co98 : Value).ownBlock ∧ some k_ ≠ (.slice Ao102 t173.length co102 : Value).ownBlock)) (by (with_reducible repeat (first | apply R_alloc | apply R_drewN | apply R_drew)); exact R_mono HO168.out (fun _ hk => ⟨⟨hk.1.1.1.1.1.1.2, ⟨hk.1.1.1.1.1.2, ⟨hk.1.1.1.1.2, ⟨hk.1.1.1.2, ⟨hk.1.1.2, hk.2⟩⟩⟩⟩⟩, hk.1.2⟩)) hg hat); have n7_ := Am (R_after (ok := (fun k_ => some k_ ≠ (.slice Ao25 t103.length co25 : Value).ownBlock ∧ some k_ ≠ (.slice Ao27 t106.length co27 : Value).ownBlock ∧ some k_ ≠ (.slice Ao29 y115.length co29 : Value).ownBlock ∧ some k_ ≠ (.slice Ao95 x12_14.length co95 : Value).ownBlock ∧ some k_ ≠ (.slice Ao98 t163.length co98 : Value).ownBlock ∧ some k_ ≠ (.slice Ao97 t166.length co97 : Value).ownBlock)) (by (with_reducible repeat (first | apply R_alloc | apply R_drewN | apply R_drew)); exact R_mono HO175.out (fun _ hk => ⟨⟨hk.1.1.1.1.1.1.2, ⟨hk.1.1.1.1.1.2, ⟨hk.1.1.1.1.2, ⟨hk.1.1.1.2, ⟨hk.1.1.2, hk.1.2⟩⟩⟩⟩⟩, hk.2⟩)) hg hat); have n8_ := Am (hb); have n9_ := Am (ho); clear HO_8; clear HO_9; clear HO_10; clear HO_12; clear BK101; clear HO165; clear HO168; clear HO175; clear HB; clear HO172; have HO_8 := n0_; have HO_9 := n1_; have HO_10 := n2_; have HO_12 := n3_; have BK101 := n4_; have HO165 := n5_; have HO168 := n6_; have HO175 := n7_; have HB := n8_; have HO178 := n9_; clear n0_ n1_ n2_ n3_ n4_ n5_ n6_ n7_ n8_ n9_; clear ho hb hg hat; obtain ⟨Ao103, co103, eo103⟩ := R_slice HO178.out; subst eo103) | (go_at_call 9; (with_reducible refine (normal_Of.calls kj14 _ _ y176 t179 _ ?side1 ?side2 A92.out).mono ?_); (case side1 => repeat (first | exact (R_reads' HO178.out).2.2 | (with_reducible refine C_alloc ?_ _) | (with_reducible refine C_drewN ?_ _) | (with_reducible refine C_drew ?_))); (case side2 => exact (R_reads' HO178.out).2.1); rintro e w104 ⟨v180, rfl, ho0, hb⟩; have n0_ := Am (R_elder' (by (with_reducible repeat (first | apply R_alloc | apply R_drewN | apply R_drew)); exact HO_8.out) (R_base ho0) hb); have n1_ := Am (R_elder' (by (with_reducible repeat (first | apply R_alloc | apply R_drewN | apply R_drew)); exact HO_9.out) (R_base ho0) hb); have n2_ := Am (R_elder' (by (with_reducible repeat (first | apply R_alloc | apply R_drewN | apply R_drew)); exact HO_10.out) (R_base ho0) hb); have n3_ := Am (R_elder' (by (with_reducible repeat (first | apply R_alloc | apply R_drewN | apply R_drew)); exact HO_12.out) (R_base ho0) hb); have n4_ := Am (R_elder' (by (with_reducible repeat (first | apply R_alloc | apply R_drewN | apply R_drew)); exact HO165.out) (R_base ho0) hb); have n5_ := Am (R_elder' (by (with_reducible repeat (first | apply R_alloc | apply R_drewN | apply R_drew)); exact HO168.out) (R_base ho0) hb); have n6_ := Am (R_elder' (by (with_reducible repeat (first | apply R_alloc | apply R_drewN | apply R_drew)); exact HO175.out) (R_base ho0) hb); have n7_ := Am (R_elder' (by (with_reducible repeat (first | apply R_alloc | apply R_drewN | apply R_drew)); exact HO178.out) (R_base ho0) hb); have n8_ := Am (R_lower (R_new' (R_new' (R_new' (R_new' (R_new' (R_new' (R_new' (R_new' ho0 (R_lt (by (with_reducible repeat (first | apply R_alloc | apply R_drewN | apply R_drew)); exact HO_8.out))) (R_lt (by (with_reducible repeat (first | apply R_alloc | apply R_drewN | apply R_drew)); exact HO_9.out))) (R_lt (by (with_reducible repeat (first | apply R_alloc | apply R_drewN | apply R_drew)); exact HO_10.out))) (R_lt (by (with_reducible repeat (first | apply R_alloc | apply R_drewN | apply R_drew)); exact HO_12.out))) (R_lt (by (with_reducible repeat (first | apply R_alloc | apply R_drewN | apply R_drew)); exact HO165.out))) (R_lt (by (with_reducible repeat (first | apply R_alloc | apply R_drewN | apply R_drew)); exact HO168.out))) (R_lt (by (with_reducible repeat (first | apply R_alloc | apply R_drewN | apply R_drew)); exact HO175.out))) (R_lt (by (with_reducible repeat (first | apply R_alloc | apply R_drewN | apply R_drew)); exact HO178.out))) (below_size (by repeat (first | (with_reducible first | exact HB.out | apply below_alloc | apply pw_below_drewN | apply below_drew1 | refine below_set ?_ GE101.out) | exact HB.out)))); have n9_ := Am (blk_below (g := gb101) (o := .cells #[.int .u8 a2_0, .int .u8 a2_1, .int .u8 a2_2] 29 (0, 0)) (by (with_reducible repeat (first | refine blk_drewN ?_ _ | refine blk_drew ?_ | refine blk_alloc ?_ _)); exact BK101.out) hb); have n10_ := Am (below_step (by repeat (first | (with_reducible first | exact HB.out | apply below_alloc | apply pw_below_drewN | apply below_drew1 | refine below_set ?_ GE101.out) | exact HB.out)) hb); clear HO_8; clear HO_9; clear HO_10; clear HO_12; clear HO165; clear HO168; clear HO175; clear HO178; clear BK101; clear HB; have HO_8 := n0_; have HO_9 := n1_; have HO_10 := n2_; have HO_12 := n3_; have HO165 := n4_; have HO168 := n5_; have HO175 := n6_; have HO178 := n7_; have HO181 := n8_; have BK101 := n9_; have HB := n10_; clear n0_ n1_ n2_ n3_ n4_ n5_ n6_ n7_ n8_ n9_ n10_; (try clear hb); (try clear hb2); (try clear hk); (try clear hi); (try clear ho0); obtain ⟨Ao105, co105, eo105⟩ := R_slice HO181.out; subst eo105; (try clear A92)) | (go_at_call 10; (with_reducible refine (epitomeref04_Same.calls kj14 _ _ t179 _ _ t163 t182 _ ?side1 ?side2 ?side3 ?side4 A93.out).mono ?_); (case side1 => repeat (first | exact (R_reads' HO181.out).2.2 | (with_reducible refine C_alloc ?_ _) | (with_reducible refine C_drewN ?_ _) | (with_reducible refine C_drew ?_))); (case side2 => exact (R_reads' HO181.out).2.1); (case side3 => repeat (first | exact (R_reads' HO165.out).2.2 | (with_reducible refine C_alloc ?_ _) | (with_reducible refine C_drewN ?_ _) | (with_reducible refine C_drew ?_))); (case side4 => exact (R_reads' HO165.out).2.1); rintro e w' ⟨rfl, ⟨nd, rfl⟩⟩; (try clear A93)))
             go_ret
             exact ⟨by first | rfl | (simp [errW_none, errW_some] <;> rfl) | (simp only [← hji10]; first | rfl | (simp [errW_none, errW_some] <;> rfl)) | (simp [*, errW_none, errW_some] <;> rfl), by repeat (first | (with_reducible first | exact HB.out | apply below_alloc | apply pw_below_drewN | apply below_drew1 | refine below_set ?_ GE101.out) | exact HB.out)⟩
            ·rw [if_neg c91] at H
             exact absurd H (by simp)
           ·replace c88 := Bool.eq_false_iff.mpr c88
            subst c88
            have H1 : (some false) = some r := by rw [if_neg (show ¬ (false = true) by decide)] at H; exact H
            clear H
            have H := H1
            clear H1
            obtain rfl := Option.some.inj H
            go_wp2_with (first | ((with_reducible refine gate_callee (f := 9) rfl ?_); refine goesL_ (some 89) rfl rfl Try.func9 (by kernel_rfl) rfl #[.slice Ao29 y115.length co29] rfl (by (try simp only [List.map_toArray, List.map_cons, List.map_nil]); first | done | rfl | (simp only [List.length_drop, List.length_take]; rfl)) ?_; (with_reducible refine (normal_Of.calls kj14 _ _ y115 t163 _ ?side1 ?side2 A84.out).mono ?_); (case side1 => repeat (first | exact (R_reads' HO_10.out).2.2 | (with_reducible refine C_alloc ?_ _) | (with_reducible refine C_drewN ?_ _) | (with_reducible refine C_drew ?_))); (case side2 => exact (R_reads' HO_10.out).2.1); rintro e w106 ⟨v164, rfl, ho0, hb⟩; refine ⟨_, rfl, ?_⟩; have n0_ := Am (R_elder' (by (with_reducible repeat (first | apply R_alloc | apply R_drewN | apply R_drew)); exact HO_8.out) (R_base ho0) hb); have n1_ := Am (R_elder' (by (with_reducible repeat (first | apply R_alloc | apply R_drewN | apply R_drew)); exact HO_9.out) (R_base ho0) hb); have n2_ := Am (R_elder' (by (with_reducible repeat (first | apply R_alloc | apply R_drewN | apply R_drew)); exact HO_10.out) (R_base ho0) hb); have n3_ := Am (R_elder' (by (with_reducible repeat (first | apply R_alloc | apply R_drewN | apply R_drew)); exact HO_12.out) (R_base ho0) hb); have n4_ := Am (R_lower (R_new' (R_new' (R_new' (R_new' ho0 (R_lt (by (with_reducible repeat (first | apply R_alloc | apply R_drewN | apply R_drew)); exact HO_8.out))) (R_lt (by (with_reducible repeat (first | apply R_alloc | apply R_drewN | apply R_drew)); exact HO_9.out))) (R_lt (by (with_reducible repeat (first | apply R_alloc | apply R_drewN | apply R_drew)); exact HO_10.out))) (R_lt (by (with_reducible repeat (first | apply R_alloc | apply R_drewN | apply R_drew)); exact HO_12.out))) (below_size (by repeat (first | (with_reducible first | exact HB.out | apply below_alloc | apply pw_below_drewN | apply below_drew1 | refine below_set ?_ GE101.out) | exact HB.out)))); have n5_ := Am (blk_below (g := gb101) (o := .cells #[.int .u8 a2_0, .int .u8 a2_1, .int .u8 a2_2] 29 (0, 0)) (by (with_reducible repeat (first | refine blk_drewN ?_ _ | refine blk_drew ?_ | refine blk_alloc ?_ _)); exact BK101.out) hb); have n6_ := Am (below_step (by repeat (first | (with_reducible first | exact HB.out | apply below_alloc | apply pw_below_drewN | apply below_drew1 | refine below_set ?_ GE101.out) | exact HB.out)) hb); clear HO_8; clear HO_9; clear HO_10; clear HO_12; clear BK101; clear HB; have HO_8 := n0_; have HO_9 := n1_; have HO_10 := n2_; have HO_12 := n3_; have HO165 := n4_; have BK101 := n5_; have HB := n6_; clear n0_ n1_ n2_ n3_ n4_ n5_ n6_; (try clear hb); (try clear hb2); (try clear hk); (try clear hi); (try clear ho0); obtain ⟨Ao107, co107, eo107⟩ := R_slice HO_12.out; subst eo107; (try clear A84)) | (go_at_call 9; (with_reducible refine (normal_Of.calls kj14 _ _ x12_14 t166 _ ?side1 ?side2 A86.out).mono ?_); (case side1 => repeat (first | exact (R_reads' HO_12.out).2.2 | (with_reducible refine C_alloc ?_ _) | (with_reducible refine C_drewN ?_ _) | (with_reducible refine C_drew ?_))); (case side2 => exact (R_reads' HO_12.out).2.1); rintro e w108 ⟨v167, rfl, ho0, hb⟩; have n0_ := Am (R_elder' (by (with_reducible repeat (first | apply R_alloc | apply R_drewN | apply R_drew)); exact HO_8.out) (R_base ho0) hb); have n1_ := Am (R_elder' (by (with_reducible repeat (first | apply R_alloc | apply R_drewN | apply R_drew)); exact HO_9.out) (R_base ho0) hb); have n2_ := Am (R_elder' (by (with_reducible repeat (first | apply R_alloc | apply R_drewN | apply R_drew)); exact HO_10.out) (R_base ho0) hb); have n3_ := Am (R_elder' (by (with_reducible repeat (first | apply R_alloc | apply R_drewN | apply R_drew)); exact HO_12.out) (R_base ho0) hb); have n4_ := Am (R_elder' (by (with_reducible repeat (first | apply R_alloc | apply R_drewN | apply R_drew)); exact HO165.out) (R_base ho0) hb); have n5_ := Am (R_lower (R_new' (R_new' (R_new' (R_new' (R_new' ho0 (R_lt (by (with_reducible repeat (first | apply R_alloc | apply R_drewN | apply R_drew)); exact HO_8.out))) (R_lt (by (with_reducible repeat (first | apply R_alloc | apply R_drewN | apply R_drew)); exact HO_9.out))) (R_lt (by (with_reducible repeat (first | apply R_alloc | apply R_drewN | apply R_drew)); exact HO_10.out))) (R_lt (by (with_reducible repeat (first | apply R_alloc | apply R_drewN | apply R_drew)); exact HO_12.out))) (R_lt (by (with_reducible repeat (first | apply R_alloc | apply R_drewN | apply R_drew)); exact HO165.out))) (below_size (by repeat (first | (with_reducible first | exact HB.out | apply below_alloc | apply pw_below_drewN | apply below_drew1 | refine below_set ?_ GE101.out) | exact HB.out)))); have n6_ := Am (blk_below (g := gb101) (o := .cells #[.int .u8 a2_0, .int .u8 a2_1, .int .u8 a2_2] 29 (0, 0)) (by (with_reducible repeat (first | refine blk_drewN ?_ _ | refine blk_drew ?_ | refine blk_alloc ?_ _)); exact BK101.out) hb); have n7_ := Am (below_step (by repeat (first | (with_reducible first | exact HB.out | apply below_alloc | apply pw_below_drewN | apply below_drew1 | refine below_set ?_ GE101.out) | exact HB.out)) hb); clear HO_8; clear HO_9; clear HO_10; clear HO_12; clear HO165; clear BK101; clear HB; have HO_8 := n0_; have HO_9 := n1_; have HO_10 := n2_; have HO_12 := n3_; have HO165 := n4_; have HO168 := n5_; have BK101 := n6_; have HB := n7_; clear n0_ n1_ n2_ n3_ n4_ n5_ n6_ n7_; (try clear hb); (try clear hb2); (try clear hk); (try clear hi); (try clear ho0); obtain ⟨Ao109, co109, eo109⟩ := R_slice HO168.out; subst eo109; obtain ⟨Ao110, co110, eo110⟩ := R_slice HO165.out; subst eo110; (try clear A86)) | (go_at_call 10; (with_reducible refine (epitomeref04_Same.calls kj14 _ _ t166 _ _ t163 false _ ?side1 ?side2 ?side3 ?side4 A87.out).mono ?_); (case side1 => repeat (first | exact (R_reads' HO168.out).2.2 | (with_reducible refine C_alloc ?_ _) | (with_reducible refine C_drewN ?_ _) | (with_reducible refine C_drew ?_))); (case side2 => exact (R_reads' HO168.out).2.1); (case side3 => repeat (first | exact (R_reads' HO165.out).2.2 | (with_reducible refine C_alloc ?_ _) | (with_reducible refine C_drewN ?_ _) | (with_reducible refine C_drew ?_))); (case side4 => exact (R_reads' HO165.out).2.1); rintro e w' ⟨rfl, ⟨nd, rfl⟩⟩))
            go_ret
            exact ⟨by first | rfl | (simp [errW_none, errW_some] <;> rfl) | (simp only [← hji10]; first | rfl | (simp [errW_none, errW_some] <;> rfl)) | (simp [*, errW_none, errW_some] <;> rfl), by repeat (first | (with_reducible first | exact HB.out | apply below_alloc | apply pw_below_drewN | apply below_drew1 | refine below_set ?_ GE101.out) | exact HB.out)⟩
          ·replace c85 := Bool.eq_false_iff.mpr c85
           subst c85
           have H1 : (some false) = some r := by rw [if_neg (show ¬ (false = true) by decide)] at H; exact H
           clear H
           have H := H1
           clear H1
           obtain rfl := Option.some.inj H
           go_wp2_with (first | ((with_reducible refine gate_callee (f := 9) rfl ?_); refine goesL_ (some 89) rfl rfl Try.func9 (by kernel_rfl) rfl #[.slice Ao29 y115.length co29] rfl (by (try simp only [List.map_toArray, List.map_cons, List.map_nil]); first | done | rfl | (simp only [List.length_drop, List.length_take]; rfl)) ?_; (with_reducible refine (normal_Of.calls kj14 _ _ y115 t163 _ ?side1 ?side2 A84.out).mono ?_); (case side1 => repeat (first | exact (R_reads' HO_10.out).2.2 | (with_reducible refine C_alloc ?_ _) | (with_reducible refine C_drewN ?_ _) | (with_reducible refine C_drew ?_))); (case side2 => exact (R_reads' HO_10.out).2.1); rintro e w111 ⟨v164, rfl, ho0, hb⟩; refine ⟨_, rfl, ?_⟩; have n0_ := Am (R_elder' (by (with_reducible repeat (first | apply R_alloc | apply R_drewN | apply R_drew)); exact HO_8.out) (R_base ho0) hb); have n1_ := Am (R_elder' (by (with_reducible repeat (first | apply R_alloc | apply R_drewN | apply R_drew)); exact HO_9.out) (R_base ho0) hb); have n2_ := Am (R_elder' (by (with_reducible repeat (first | apply R_alloc | apply R_drewN | apply R_drew)); exact HO_10.out) (R_base ho0) hb); have n3_ := Am (R_elder' (by (with_reducible repeat (first | apply R_alloc | apply R_drewN | apply R_drew)); exact HO_12.out) (R_base ho0) hb); have n4_ := Am (R_lower (R_new' (R_new' (R_new' (R_new' ho0 (R_lt (by (with_reducible repeat (first | apply R_alloc | apply R_drewN | apply R_drew)); exact HO_8.out))) (R_lt (by (with_reducible repeat (first | apply R_alloc | apply R_drewN | apply R_drew)); exact HO_9.out))) (R_lt (by (with_reducible repeat (first | apply R_alloc | apply R_drewN | apply R_drew)); exact HO_10.out))) (R_lt (by (with_reducible repeat (first | apply R_alloc | apply R_drewN | apply R_drew)); exact HO_12.out))) (below_size (by repeat (first | (with_reducible first | exact HB.out | apply below_alloc | apply pw_below_drewN | apply below_drew1 | refine below_set ?_ GE101.out) | exact HB.out)))); have n5_ := Am (blk_below (g := gb101) (o := .cells #[.int .u8 a2_0, .int .u8 a2_1, .int .u8 a2_2] 29 (0, 0)) (by (with_reducible repeat (first | refine blk_drewN ?_ _ | refine blk_drew ?_ | refine blk_alloc ?_ _)); exact BK101.out) hb); have n6_ := Am (below_step (by repeat (first | (with_reducible first | exact HB.out | apply below_alloc | apply pw_below_drewN | apply below_drew1 | refine below_set ?_ GE101.out) | exact HB.out)) hb); clear HO_8; clear HO_9; clear HO_10; clear HO_12; clear BK101; clear HB; have HO_8 := n0_; have HO_9 := n1_; have HO_10 := n2_; have HO_12 := n3_; have HO165 := n4_; have BK101 := n5_; have HB := n6_; clear n0_ n1_ n2_ n3_ n4_ n5_ n6_; (try clear hb); (try clear hb2); (try clear hk); (try clear hi); (try clear ho0)))
           go_ret
           exact ⟨by first | rfl | (simp [errW_none, errW_some] <;> rfl) | (simp only [← hji10]; first | rfl | (simp [errW_none, errW_some] <;> rfl)) | (simp [*, errW_none, errW_some] <;> rfl), by repeat (first | (with_reducible first | exact HB.out | apply below_alloc | apply pw_below_drewN | apply below_drew1 | refine below_set ?_ GE101.out) | exact HB.out)⟩
       ·rw [if_neg c14] at H
        exact absurd H (by simp)
      ·rw [if_neg c13] at H
       exact absurd H (by simp)
     ·rw [if_neg c12] at H
      exact absurd H (by simp)
    ·rw [if_neg c11] at H
     exact absurd H (by simp)
  ·rw [if_neg c8] at H
   exact absurd H (by simp)
 ·rw [if_neg c7] at H
  exact absurd H (by simp)

end Go.Proofs.Ytidmodnfodifgaa.F
