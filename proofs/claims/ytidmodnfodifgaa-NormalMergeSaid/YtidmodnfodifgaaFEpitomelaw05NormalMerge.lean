-- Written by drive.py (this session's) with the kit's printer, beside functions proved by hand. Not trusted: Lean checks it.
import Derived.Test.YtidmodnfodifgaaBase
import Derived.Test.YtidmodnfodifgaaFEpitomelaw05Shown
import Derived.Test.YtidmodnfodifgaaFEpitomeref01Fit
import Derived.Test.YtidmodnfodifgaaFEpitomeref04Same
import Derived.Test.YtidmodnfodifgaaFNormalIs
import Derived.Test.YtidmodnfodifgaaFNormalOf
namespace Go.Proofs.Ytidmodnfodifgaa.F
open Go.RowKit Go.Proofs.YtidmodnfodifgaaW.PrintWords Go.Proofs.YtidmodnfodifgaaW.PrintLast Go.Proofs.YtidmodnfodifgaaW.PrintMore
attribute [local go_sem] max2_int min2_int max_two min_two max_three min_three max_four min_four cell_setCell_isSome
set_option linter.unusedVariables false
set_option linter.unusedSimpArgs false

/-! ### epitomelaw05_NormalMerge: function 6 -/
mutual
def epitomelaw05_NormalMerge.l0 : Nat → Bool → ByteArray → Int → List (S31) → List (S31) → ByteArray → Int → Int → Int → Int → Option (Bool)
  | 0, _, _, _, _, _, _, _, _, _, _ => none
  | k + 1, x7, x8, x9, x10, x11, x12, x13, x102000, x102001, x102002 => if x13 < (wrap64 (Int.tmod x102000 8)) then (if x10.length < 4398046511104 then (epitomelaw05_NormalMerge.l0 k x7 x8 x9 (x10 ++ [(⟨1, x9, (⟨#[]⟩ : ByteArray)⟩ : S31)]) x11 x12 (wrap64 (x13 + 1)) x102000 x102001 x102002) else (none)) else (epitomelaw05_NormalMerge.l1 k x7 x8 x9 x10 x11 x12 0 x102000 x102001 x102002)
def epitomelaw05_NormalMerge.l1 : Nat → Bool → ByteArray → Int → List (S31) → List (S31) → ByteArray → Int → Int → Int → Int → Option (Bool)
  | 0, _, _, _, _, _, _, _, _, _, _ => none
  | k + 1, x7, x8, x9, x10, x11, x12, x14, x102000, x102001, x102002 => if x14 < (wrap64 (Int.tmod x102001 8)) then (if x10.length < 4398046511104 then (if x12.size + x8.size ≤ 9223372036854775807 then (epitomelaw05_NormalMerge.l1 k x7 x8 x9 (x10 ++ [(⟨2, 0, x8⟩ : S31)]) x11 (x12 ++ x8) (wrap64 (x14 + 1)) x102000 x102001 x102002) else (none)) else (none)) else (epitomelaw05_NormalMerge.l2 k x7 x9 x10 x11 x12 0 x102000 x102001 x102002)
def epitomelaw05_NormalMerge.l2 : Nat → Bool → Int → List (S31) → List (S31) → ByteArray → Int → Int → Int → Int → Option (Bool)
  | 0, _, _, _, _, _, _, _, _, _ => none
  | k + 1, x7, x9, x10, x11, x12, x15, x102000, x102001, x102002 => if x15 < (wrap64 (Int.tmod x102002 8)) then (if x10.length < 4398046511104 then (epitomelaw05_NormalMerge.l2 k x7 x9 (x10 ++ [(⟨3, x9, (⟨#[]⟩ : ByteArray)⟩ : S31)]) x11 x12 (wrap64 (x15 + 1)) x102000 x102001 x102002) else (none)) else (if (wrap64 ((wrap64 (Int.tmod x102000 8)) * x9)) > 0 then (if x11.length < 4398046511104 then (epitomelaw05_NormalMerge.j3 k x7 x9 x10 (x11 ++ [(⟨1, wrap64 ((wrap64 (Int.tmod x102000 8)) * x9), (⟨#[]⟩ : ByteArray)⟩ : S31)]) x12 x102000 x102001 x102002) else (none)) else (epitomelaw05_NormalMerge.j3 k x7 x9 x10 x11 x12 x102000 x102001 x102002))
def epitomelaw05_NormalMerge.j3 : Nat → Bool → Int → List (S31) → List (S31) → ByteArray → Int → Int → Int → Option (Bool)
  | 0, _, _, _, _, _, _, _, _ => none
  | k + 1, x7, x9, x10, x11, x12, x102000, x102001, x102002 => if x12.toList = ([] : List UInt8) then (epitomelaw05_NormalMerge.j4 k x7 x9 x10 x11 x102000 x102001 x102002) else (if x11.length < 4398046511104 then (epitomelaw05_NormalMerge.j4 k x7 x9 x10 (x11 ++ [(⟨2, 0, x12⟩ : S31)]) x102000 x102001 x102002) else (none))
def epitomelaw05_NormalMerge.j4 : Nat → Bool → Int → List (S31) → List (S31) → Int → Int → Int → Option (Bool)
  | 0, _, _, _, _, _, _, _ => none
  | k + 1, x7, x9, x10, x11, x102000, x102001, x102002 => if (wrap64 ((wrap64 (Int.tmod x102002 8)) * x9)) > 0 then (if x11.length < 4398046511104 then ((some (x11 ++ [(⟨3, wrap64 ((wrap64 (Int.tmod x102002 8)) * x9), (⟨#[]⟩ : ByteArray)⟩ : S31)] : List (S31))).bind fun y125 => (if x7 = true then ((normal_Of.f k x10).bind fun t128 => ((epitomeref04_Same.f k t128 y125).bind fun t131 => (if t131 = true then ((normal_Is.f k y125).bind fun t132 => (some t132)) else (some false)))) else (some false))) else (none)) else (if x7 = true then ((normal_Of.f k x10).bind fun t133 => ((epitomeref04_Same.f k t133 x11).bind fun t136 => (if t136 = true then ((normal_Is.f k x11).bind fun t137 => (some t137)) else (some false)))) else (some false))
end
def epitomelaw05_NormalMerge.f (k : Nat) (a0 : ByteArray) (a1_0 : Int) (a1_1 : Int) (a1_2 : Int) (a2 : Int) : Option (Bool) := (epitomelaw05_shown.f k).bind fun t102 => (if 0 ≤ (mn (a0.size : Int) 20) then (if (mn (a0.size : Int) 20) ≤ (a0.size : Int) then ((epitomeref01_Fit.f k (a0.extract 0 ((mn (a0.size : Int) 20) : Int).toNat)).bind fun t103 => (epitomelaw05_NormalMerge.l0 k t102 t103 (wrap64 (Int.tmod a2 8)) (([] : List (S31))) (([] : List (S31))) (⟨#[]⟩ : ByteArray) 0 a1_0 a1_1 a1_2)) else (none)) else (none))
theorem epitomelaw05_NormalMerge.mono_l : ∀ k, (∀ y0 y1 y2 y3 y4 y5 y6 y7 y8 y9, LeO (epitomelaw05_NormalMerge.l0 k y0 y1 y2 y3 y4 y5 y6 y7 y8 y9) (epitomelaw05_NormalMerge.l0 (k + 1) y0 y1 y2 y3 y4 y5 y6 y7 y8 y9)) ∧ (∀ y0 y1 y2 y3 y4 y5 y6 y7 y8 y9, LeO (epitomelaw05_NormalMerge.l1 k y0 y1 y2 y3 y4 y5 y6 y7 y8 y9) (epitomelaw05_NormalMerge.l1 (k + 1) y0 y1 y2 y3 y4 y5 y6 y7 y8 y9)) ∧ (∀ y0 y1 y2 y3 y4 y5 y6 y7 y8, LeO (epitomelaw05_NormalMerge.l2 k y0 y1 y2 y3 y4 y5 y6 y7 y8) (epitomelaw05_NormalMerge.l2 (k + 1) y0 y1 y2 y3 y4 y5 y6 y7 y8)) ∧ (∀ y0 y1 y2 y3 y4 y5 y6 y7, LeO (epitomelaw05_NormalMerge.j3 k y0 y1 y2 y3 y4 y5 y6 y7) (epitomelaw05_NormalMerge.j3 (k + 1) y0 y1 y2 y3 y4 y5 y6 y7)) ∧ (∀ y0 y1 y2 y3 y4 y5 y6, LeO (epitomelaw05_NormalMerge.j4 k y0 y1 y2 y3 y4 y5 y6) (epitomelaw05_NormalMerge.j4 (k + 1) y0 y1 y2 y3 y4 y5 y6))
  | 0 => ⟨fun _ _ _ _ _ _ _ _ _ _ r h => by simp [epitomelaw05_NormalMerge.l0] at h, fun _ _ _ _ _ _ _ _ _ _ r h => by simp [epitomelaw05_NormalMerge.l1] at h, fun _ _ _ _ _ _ _ _ _ r h => by simp [epitomelaw05_NormalMerge.l2] at h, fun _ _ _ _ _ _ _ _ r h => by simp [epitomelaw05_NormalMerge.j3] at h, fun _ _ _ _ _ _ _ r h => by simp [epitomelaw05_NormalMerge.j4] at h⟩
  | k + 1 => by
    obtain ⟨ih0, ih1, ih2, ih3, ih4⟩ := epitomelaw05_NormalMerge.mono_l k
    refine ⟨?_, ?_, ?_, ?_, ?_⟩
    · intro y0 y1 y2 y3 y4 y5 y6 y7 y8 y9
      unfold epitomelaw05_NormalMerge.l0
      repeat' first
      | (with_reducible exact ih0 _ _ _ _ _ _ _ _ _ _)
      | (with_reducible exact ih1 _ _ _ _ _ _ _ _ _ _)
      | (with_reducible exact ih2 _ _ _ _ _ _ _ _ _)
      | (with_reducible exact ih3 _ _ _ _ _ _ _ _)
      | (with_reducible exact ih4 _ _ _ _ _ _ _)
      | (with_reducible exact epitomelaw05_shown.mono _)
      | (with_reducible exact epitomeref01_Fit.mono _ _)
      | (with_reducible exact epitomeref04_Same.mono _ _ _)
      | (with_reducible exact normal_Is.mono _ _)
      | (with_reducible exact normal_Of.mono _ _)
      | (with_reducible exact LeO.refl _)
      | (with_reducible exact LeO.none _)
      | (with_reducible refine LeO.ite ?_ ?_)
      | (with_reducible refine LeO.bind ?_ (fun _ => ?_))
      | exact ih0 _ _ _ _ _ _ _ _ _ _
      | exact ih1 _ _ _ _ _ _ _ _ _ _
      | exact ih2 _ _ _ _ _ _ _ _ _
      | exact ih3 _ _ _ _ _ _ _ _
      | exact ih4 _ _ _ _ _ _ _
      | exact epitomelaw05_shown.mono _
      | exact epitomeref01_Fit.mono _ _
      | exact epitomeref04_Same.mono _ _ _
      | exact normal_Is.mono _ _
      | exact normal_Of.mono _ _
      | exact LeO.none _
      | refine LeO.ite ?_ ?_
      | refine LeO.bind ?_ (fun _ => ?_)
    · intro y0 y1 y2 y3 y4 y5 y6 y7 y8 y9
      unfold epitomelaw05_NormalMerge.l1
      repeat' first
      | (with_reducible exact ih0 _ _ _ _ _ _ _ _ _ _)
      | (with_reducible exact ih1 _ _ _ _ _ _ _ _ _ _)
      | (with_reducible exact ih2 _ _ _ _ _ _ _ _ _)
      | (with_reducible exact ih3 _ _ _ _ _ _ _ _)
      | (with_reducible exact ih4 _ _ _ _ _ _ _)
      | (with_reducible exact epitomelaw05_shown.mono _)
      | (with_reducible exact epitomeref01_Fit.mono _ _)
      | (with_reducible exact epitomeref04_Same.mono _ _ _)
      | (with_reducible exact normal_Is.mono _ _)
      | (with_reducible exact normal_Of.mono _ _)
      | (with_reducible exact LeO.refl _)
      | (with_reducible exact LeO.none _)
      | (with_reducible refine LeO.ite ?_ ?_)
      | (with_reducible refine LeO.bind ?_ (fun _ => ?_))
      | exact ih0 _ _ _ _ _ _ _ _ _ _
      | exact ih1 _ _ _ _ _ _ _ _ _ _
      | exact ih2 _ _ _ _ _ _ _ _ _
      | exact ih3 _ _ _ _ _ _ _ _
      | exact ih4 _ _ _ _ _ _ _
      | exact epitomelaw05_shown.mono _
      | exact epitomeref01_Fit.mono _ _
      | exact epitomeref04_Same.mono _ _ _
      | exact normal_Is.mono _ _
      | exact normal_Of.mono _ _
      | exact LeO.none _
      | refine LeO.ite ?_ ?_
      | refine LeO.bind ?_ (fun _ => ?_)
    · intro y0 y1 y2 y3 y4 y5 y6 y7 y8
      unfold epitomelaw05_NormalMerge.l2
      repeat' first
      | (with_reducible exact ih0 _ _ _ _ _ _ _ _ _ _)
      | (with_reducible exact ih1 _ _ _ _ _ _ _ _ _ _)
      | (with_reducible exact ih2 _ _ _ _ _ _ _ _ _)
      | (with_reducible exact ih3 _ _ _ _ _ _ _ _)
      | (with_reducible exact ih4 _ _ _ _ _ _ _)
      | (with_reducible exact epitomelaw05_shown.mono _)
      | (with_reducible exact epitomeref01_Fit.mono _ _)
      | (with_reducible exact epitomeref04_Same.mono _ _ _)
      | (with_reducible exact normal_Is.mono _ _)
      | (with_reducible exact normal_Of.mono _ _)
      | (with_reducible exact LeO.refl _)
      | (with_reducible exact LeO.none _)
      | (with_reducible refine LeO.ite ?_ ?_)
      | (with_reducible refine LeO.bind ?_ (fun _ => ?_))
      | exact ih0 _ _ _ _ _ _ _ _ _ _
      | exact ih1 _ _ _ _ _ _ _ _ _ _
      | exact ih2 _ _ _ _ _ _ _ _ _
      | exact ih3 _ _ _ _ _ _ _ _
      | exact ih4 _ _ _ _ _ _ _
      | exact epitomelaw05_shown.mono _
      | exact epitomeref01_Fit.mono _ _
      | exact epitomeref04_Same.mono _ _ _
      | exact normal_Is.mono _ _
      | exact normal_Of.mono _ _
      | exact LeO.none _
      | refine LeO.ite ?_ ?_
      | refine LeO.bind ?_ (fun _ => ?_)
    · intro y0 y1 y2 y3 y4 y5 y6 y7
      unfold epitomelaw05_NormalMerge.j3
      repeat' first
      | (with_reducible exact ih0 _ _ _ _ _ _ _ _ _ _)
      | (with_reducible exact ih1 _ _ _ _ _ _ _ _ _ _)
      | (with_reducible exact ih2 _ _ _ _ _ _ _ _ _)
      | (with_reducible exact ih3 _ _ _ _ _ _ _ _)
      | (with_reducible exact ih4 _ _ _ _ _ _ _)
      | (with_reducible exact epitomelaw05_shown.mono _)
      | (with_reducible exact epitomeref01_Fit.mono _ _)
      | (with_reducible exact epitomeref04_Same.mono _ _ _)
      | (with_reducible exact normal_Is.mono _ _)
      | (with_reducible exact normal_Of.mono _ _)
      | (with_reducible exact LeO.refl _)
      | (with_reducible exact LeO.none _)
      | (with_reducible refine LeO.ite ?_ ?_)
      | (with_reducible refine LeO.bind ?_ (fun _ => ?_))
      | exact ih0 _ _ _ _ _ _ _ _ _ _
      | exact ih1 _ _ _ _ _ _ _ _ _ _
      | exact ih2 _ _ _ _ _ _ _ _ _
      | exact ih3 _ _ _ _ _ _ _ _
      | exact ih4 _ _ _ _ _ _ _
      | exact epitomelaw05_shown.mono _
      | exact epitomeref01_Fit.mono _ _
      | exact epitomeref04_Same.mono _ _ _
      | exact normal_Is.mono _ _
      | exact normal_Of.mono _ _
      | exact LeO.none _
      | refine LeO.ite ?_ ?_
      | refine LeO.bind ?_ (fun _ => ?_)
    · intro y0 y1 y2 y3 y4 y5 y6
      unfold epitomelaw05_NormalMerge.j4
      repeat' first
      | (with_reducible exact ih0 _ _ _ _ _ _ _ _ _ _)
      | (with_reducible exact ih1 _ _ _ _ _ _ _ _ _ _)
      | (with_reducible exact ih2 _ _ _ _ _ _ _ _ _)
      | (with_reducible exact ih3 _ _ _ _ _ _ _ _)
      | (with_reducible exact ih4 _ _ _ _ _ _ _)
      | (with_reducible exact epitomelaw05_shown.mono _)
      | (with_reducible exact epitomeref01_Fit.mono _ _)
      | (with_reducible exact epitomeref04_Same.mono _ _ _)
      | (with_reducible exact normal_Is.mono _ _)
      | (with_reducible exact normal_Of.mono _ _)
      | (with_reducible exact LeO.refl _)
      | (with_reducible exact LeO.none _)
      | (with_reducible refine LeO.ite ?_ ?_)
      | (with_reducible refine LeO.bind ?_ (fun _ => ?_))
      | exact ih0 _ _ _ _ _ _ _ _ _ _
      | exact ih1 _ _ _ _ _ _ _ _ _ _
      | exact ih2 _ _ _ _ _ _ _ _ _
      | exact ih3 _ _ _ _ _ _ _ _
      | exact ih4 _ _ _ _ _ _ _
      | exact epitomelaw05_shown.mono _
      | exact epitomeref01_Fit.mono _ _
      | exact epitomeref04_Same.mono _ _ _
      | exact normal_Is.mono _ _
      | exact normal_Of.mono _ _
      | exact LeO.none _
      | refine LeO.ite ?_ ?_
      | refine LeO.bind ?_ (fun _ => ?_)
theorem epitomelaw05_NormalMerge.mono : ∀ a0 a1 a2 a3 a4 k, LeO (epitomelaw05_NormalMerge.f k a0 a1 a2 a3 a4) (epitomelaw05_NormalMerge.f (k + 1) a0 a1 a2 a3 a4) := by
  intro a0 a1 a2 a3 a4 k
  obtain ⟨ih0, ih1, ih2, ih3, ih4⟩ := epitomelaw05_NormalMerge.mono_l k
  unfold epitomelaw05_NormalMerge.f
  repeat' first
      | (with_reducible exact ih0 _ _ _ _ _ _ _ _ _ _)
      | (with_reducible exact ih1 _ _ _ _ _ _ _ _ _ _)
      | (with_reducible exact ih2 _ _ _ _ _ _ _ _ _)
      | (with_reducible exact ih3 _ _ _ _ _ _ _ _)
      | (with_reducible exact ih4 _ _ _ _ _ _ _)
      | (with_reducible exact epitomelaw05_shown.mono _)
      | (with_reducible exact epitomeref01_Fit.mono _ _)
      | (with_reducible exact epitomeref04_Same.mono _ _ _)
      | (with_reducible exact normal_Is.mono _ _)
      | (with_reducible exact normal_Of.mono _ _)
      | (with_reducible exact LeO.refl _)
      | (with_reducible exact LeO.none _)
      | (with_reducible refine LeO.ite ?_ ?_)
      | (with_reducible refine LeO.bind ?_ (fun _ => ?_))
      | exact ih0 _ _ _ _ _ _ _ _ _ _
      | exact ih1 _ _ _ _ _ _ _ _ _ _
      | exact ih2 _ _ _ _ _ _ _ _ _
      | exact ih3 _ _ _ _ _ _ _ _
      | exact ih4 _ _ _ _ _ _ _
      | exact epitomelaw05_shown.mono _
      | exact epitomeref01_Fit.mono _ _
      | exact epitomeref04_Same.mono _ _ _
      | exact normal_Is.mono _ _
      | exact normal_Of.mono _ _
      | exact LeO.none _
      | refine LeO.ite ?_ ?_
      | refine LeO.bind ?_ (fun _ => ?_)
set_option maxHeartbeats 8000000 in
set_option maxRecDepth 100000 in
theorem epitomelaw05_NormalMerge.calls (k : Nat) (a0 : ByteArray) (a1_0 : Int) (a1_1 : Int) (a1_2 : Int) (a2 : Int) (r : Bool) (w : World) (h : epitomelaw05_NormalMerge.f k a0 a1_0 a1_1 a1_2 a2 = some r) :
    Calls Try.prog 6 #[.string a0, .agg #[.int .u8 a1_0, .int .u8 a1_1, .int .u8 a1_2], .int .u8 a2] w fun e w' => e = .returned (.bool r) ∧ Below w.heap.size w w' := by
  have hu29 := Try.underlying29
  have hu31 := Try.underlying31
  have HB := Aside0.mk (Below.refl w.heap.size w)
  have H : ((epitomelaw05_shown.f k).bind fun t102 => (if 0 ≤ (mn (a0.size : Int) 20) then (if (mn (a0.size : Int) 20) ≤ (a0.size : Int) then ((epitomeref01_Fit.f k (a0.extract 0 ((mn (a0.size : Int) 20) : Int).toNat)).bind fun t103 => (epitomelaw05_NormalMerge.l0 k t102 t103 (wrap64 (Int.tmod a2 8)) (([] : List (S31))) (([] : List (S31))) (⟨#[]⟩ : ByteArray) 0 a1_0 a1_1 a1_2)) else (none)) else (none))) = some r := h
  clear h
  replace H := Option.bind_eq_some_iff.mp H
  obtain ⟨t102, A40, H⟩ := H
  replace H : (if 0 ≤ (mn (a0.size : Int) 20) then (if (mn (a0.size : Int) 20) ≤ (a0.size : Int) then ((epitomeref01_Fit.f k (a0.extract 0 ((mn (a0.size : Int) 20) : Int).toNat)).bind fun t103 => (epitomelaw05_NormalMerge.l0 k t102 t103 (wrap64 (Int.tmod a2 8)) (([] : List (S31))) (([] : List (S31))) (⟨#[]⟩ : ByteArray) 0 a1_0 a1_1 a1_2)) else (none)) else (none)) = some r := H
  have A4 := Aside0.mk A40
  clear A40
  obtain ⟨ji5, hji5⟩ : ∃ j_ : Int, (mn (a0.size : Int) 20) = j_ := ⟨_, rfl⟩
  replace H : (if 0 ≤ (ji5) then (if (ji5) ≤ (a0.size : Int) then ((epitomeref01_Fit.f k (a0.extract 0 ((ji5) : Int).toNat)).bind fun t103 => (epitomelaw05_NormalMerge.l0 k t102 t103 (wrap64 (Int.tmod a2 8)) (([] : List (S31))) (([] : List (S31))) (⟨#[]⟩ : ByteArray) 0 a1_0 a1_1 a1_2)) else (none)) else (none)) = some r := by first | (rw [hji5] at H; exact H) | (simp only [hji5] at H ⊢; exact H)
  (try rw [hji5] at A4)
  (try (have hji5h : ji5 ≤ 20 := by (rw [← hji5]; unfold mn; (repeat' split) <;> omega)))
  (try (have hji5g : ji5 ≤ 64 := by omega))
  (try (have hji5l : 0 ≤ ji5 := by (rw [← hji5]; unfold mn; (repeat' split) <;> omega)))
  (try (have hji5m : 0 ≤ ji5 := by omega))
  have hji5_ : (if 20 < (a0.size : Int) then 20 else (a0.size : Int)) = ji5 := hji5
  by_cases c6 : 0 ≤ (ji5)
  · rw [if_pos c6] at H
    have c6b0 := eq_true c6
    have c6b1 : decide (0 ≤ (ji5)) = true := decide_eq_true c6
    clear c6
    by_cases c7 : (ji5) ≤ (a0.size : Int)
    · rw [if_pos c7] at H
      have c7b0 := eq_true c7
      have c7b1 : decide ((ji5) ≤ (a0.size : Int)) = true := decide_eq_true c7
      clear c7
      replace H := Option.bind_eq_some_iff.mp H
      obtain ⟨t103, A80, H⟩ := H
      replace H : (epitomelaw05_NormalMerge.l0 k t102 t103 (wrap64 (Int.tmod a2 8)) (([] : List (S31))) (([] : List (S31))) (⟨#[]⟩ : ByteArray) 0 a1_0 a1_1 a1_2) = some r := H
      have A8 := Aside0.mk A80
      clear A80
      obtain ⟨y104, hy104⟩ : ∃ y_ : List (S31), y_ = (([] : List (S31))) := ⟨_, rfl⟩
      replace H : (epitomelaw05_NormalMerge.l0 k t102 t103 (wrap64 (Int.tmod a2 8)) y104 (([] : List (S31))) (⟨#[]⟩ : ByteArray) 0 a1_0 a1_1 a1_2) = some r := by first | (rw [hy104]; with_reducible exact H) | (have H2_ := (Option.bind_some _ _).symm.trans H; rw [hy104]; with_reducible exact H2_) | (have H2_ := (Option.bind_some _ _).symm.trans H; with_reducible exact H2_) | with_reducible exact H | (rw [hy104]; exact H) | exact H
      have Ny104 := Aside0.mk hy104
      clear hy104
      obtain ⟨y107, hy107⟩ : ∃ y_ : List (S31), y_ = (([] : List (S31))) := ⟨_, rfl⟩
      replace H : (epitomelaw05_NormalMerge.l0 k t102 t103 (wrap64 (Int.tmod a2 8)) y104 y107 (⟨#[]⟩ : ByteArray) 0 a1_0 a1_1 a1_2) = some r := by first | (rw [hy107]; with_reducible exact H) | (have H2_ := (Option.bind_some _ _).symm.trans H; rw [hy107]; with_reducible exact H2_) | (have H2_ := (Option.bind_some _ _).symm.trans H; with_reducible exact H2_) | with_reducible exact H | (rw [hy107]; exact H) | exact H
      have Ny107 := Aside0.mk hy107
      clear hy107
      have H' := Aside0.mk H
      clear H
      go_enter Try.func6, Try.ntmps6
      go_wp2_with (first | ((with_reducible refine gate_dst (N := 4) rfl ?_); refine box_event ?hg (N := 4) ?hd (cs := #[.int .u8 a1_0, .int .u8 a1_1, .int .u8 a1_2]) (t := 29) ?hr ?_; (case hd => rfl); (case hg => rfl); (case hr => first | (go_simp; done) | (go_simp; rfl)); intro gb101 hg w9 hbox hb; have n0_ := Aside0.mk (below_step (by repeat (first | (with_reducible first | exact HB.out | apply below_alloc | apply pw_below_drewN | apply below_drew1) | exact HB.out)) hb); have n1_ := Aside0.mk (hbox); have n2_ := Aside0.mk ((by rw [hg]; exact (below_size (by repeat (first | (with_reducible first | exact HB.out | apply below_alloc | apply pw_below_drewN | apply below_drew1) | exact HB.out))) : w.heap.size ≤ gb101)); have n3_ := Aside0.mk ((by rw [hg]; exact (below_size (by repeat (first | (with_reducible first | exact HB.out | apply below_alloc | apply pw_below_drewN | apply below_drew1) | exact HB.out))) : w.heap.size ≤ gb101)); clear HB; have HB := n0_; have BK101 := n1_; have GW101 := n2_; have GE101 := n3_; clear n0_ n1_ n2_ n3_; clear hb hbox hg) | ((with_reducible refine gate_callee (f := 7) rfl ?_); refine goesL_ (some 16) rfl rfl Try.func7 (by kernel_rfl) rfl #[] rfl (by (try simp only [List.map_toArray, List.map_cons, List.map_nil]); first | done | rfl | (simp only [List.length_drop, List.length_take]; rfl)) ?_; (with_reducible refine (epitomelaw05_shown.calls k  t102 _ A4.out).mono ?_); rintro e w10 ⟨rfl, hb⟩; refine ⟨_, rfl, ?_⟩; have n0_ := Aside0.mk (blk_below (g := gb101) (o := .cells #[.int .u8 a1_0, .int .u8 a1_1, .int .u8 a1_2] 29 (0, 0)) (by (with_reducible repeat (first | refine blk_drewN ?_ _ | refine blk_drew ?_ | refine blk_alloc ?_ _)); exact BK101.out) hb); have n1_ := Aside0.mk (below_step (by repeat (first | (with_reducible first | exact HB.out | apply below_alloc | apply pw_below_drewN | apply below_drew1 | refine below_set ?_ GE101.out) | exact HB.out)) hb); clear BK101; clear HB; have BK101 := n0_; have HB := n1_; clear n0_ n1_; (try clear hb); (try clear hb2); (try clear hk); (try clear hi)) | ((with_reducible refine gate_callee (f := 14) rfl ?_); refine goesL_ (some 22) rfl rfl Try.func14 (by kernel_rfl) rfl #[.string (a0.extract 0 ((ji5) : Int).toNat)] rfl (by (try simp only [List.map_toArray, List.map_cons, List.map_nil]); first | done | (simp only [hji5]; rfl) | rfl | (simp only [List.length_drop, List.length_take]; rfl)) ?_; (with_reducible refine (epitomeref01_Fit.calls k (a0.extract 0 ((ji5) : Int).toNat) t103 _ A8.out).mono ?_); rintro e w11 ⟨rfl, hb⟩; refine ⟨_, rfl, ?_⟩; have n0_ := Aside0.mk (blk_below (g := gb101) (o := .cells #[.int .u8 a1_0, .int .u8 a1_1, .int .u8 a1_2] 29 (0, 0)) (by (with_reducible repeat (first | refine blk_drewN ?_ _ | refine blk_drew ?_ | refine blk_alloc ?_ _)); exact BK101.out) hb); have n1_ := Aside0.mk (below_step (by repeat (first | (with_reducible first | exact HB.out | apply below_alloc | apply pw_below_drewN | apply below_drew1 | refine below_set ?_ GE101.out) | exact HB.out)) hb); clear BK101; clear HB; have BK101 := n0_; have HB := n1_; clear n0_ n1_; (try clear hb); (try clear hb2); (try clear hk); (try clear hi)) | ((with_reducible refine gate_dst (N := 26) rfl ?_); refine Kd.R_lit k31 _ 31 ?hg (N := 26) ?hd (xs := ([] : List (S31))) (inner := []) (ok := fun _ => True) (okp := fun _ => True) ?hr ?hp (fun _ hk => hk) trivial (Below.refl _ _) (Nat.le_refl _) (by simp) ?_; (case hd => rfl); (case hg => rfl); (case hr => first | (go_simp; done) | (go_simp; rfl)); (case hp => exact (Reps.none _ _)); intro v105 w12 ho13 hb hg_ hnew_; clear hg_ hnew_; (first | rw [← Ny104.out] at ho13 | (simp only [Int.reduceToNat] at ho13; rw [← Ny104.out] at ho13)); have n0_ := Aside0.mk (Kd.R_lower ho13 (below_size (by repeat (first | (with_reducible first | exact HB.out | apply below_alloc | apply pw_below_drewN | apply below_drew1 | refine below_set ?_ GE101.out) | exact HB.out)))); have n1_ := Aside0.mk (blk_below (g := gb101) (o := .cells #[.int .u8 a1_0, .int .u8 a1_1, .int .u8 a1_2] 29 (0, 0)) (by (with_reducible repeat (first | refine blk_drewN ?_ _ | refine blk_drew ?_ | refine blk_alloc ?_ _)); exact BK101.out) hb); have n2_ := Aside0.mk (below_step (by repeat (first | (with_reducible first | exact HB.out | apply below_alloc | apply pw_below_drewN | apply below_drew1 | refine below_set ?_ GE101.out) | exact HB.out)) hb); clear BK101; clear HB; have HO106 := n0_; have BK101 := n1_; have HB := n2_; clear n0_ n1_ n2_; clear hb ho13) | ((with_reducible refine gate_dst (N := 27) rfl ?_); refine Kd.R_lit k31 _ 31 ?hg (N := 27) ?hd (xs := ([] : List (S31))) (inner := []) (ok := fun _ => True) (okp := fun _ => True) ?hr ?hp (fun _ hk => hk) trivial (Below.refl _ _) (Nat.le_refl _) (by simp) ?_; (case hd => rfl); (case hg => rfl); (case hr => first | (go_simp; done) | (go_simp; rfl)); (case hp => exact (Reps.none _ _)); intro v108 w14 ho15 hb hg_ hnew_; clear hg_ hnew_; (first | rw [← Ny107.out] at ho15 | (simp only [Int.reduceToNat] at ho15; rw [← Ny107.out] at ho15)); have n0_ := Aside0.mk (Kd.R_elder' (by (with_reducible repeat (first | apply Kd.R_alloc | apply Kd.R_drewN | apply Kd.R_drew)); exact HO106.out) (Kd.R_base ho15) hb); have n1_ := Aside0.mk (Kd.R_lower (Kd.R_new' ho15 (Kd.R_lt (by (with_reducible repeat (first | apply Kd.R_alloc | apply Kd.R_drewN | apply Kd.R_drew)); exact HO106.out))) (below_size (by repeat (first | (with_reducible first | exact HB.out | apply below_alloc | apply pw_below_drewN | apply below_drew1 | refine below_set ?_ GE101.out) | exact HB.out)))); have n2_ := Aside0.mk (blk_below (g := gb101) (o := .cells #[.int .u8 a1_0, .int .u8 a1_1, .int .u8 a1_2] 29 (0, 0)) (by (with_reducible repeat (first | refine blk_drewN ?_ _ | refine blk_drew ?_ | refine blk_alloc ?_ _)); exact BK101.out) hb); have n3_ := Aside0.mk (below_step (by repeat (first | (with_reducible first | exact HB.out | apply below_alloc | apply pw_below_drewN | apply below_drew1 | refine below_set ?_ GE101.out) | exact HB.out)) hb); clear HO106; clear BK101; clear HB; have HO106 := n0_; have HO109 := n1_; have BK101 := n2_; have HB := n3_; clear n0_ n1_ n2_ n3_; clear hb ho15))
      go_loopg [10, 13] k (fun kq v10 v13 w' => ∃ (x10_1 : List (S31)) (x13_1 : Int), v13 = .int .i64 x13_1 ∧ Aside0 (epitomelaw05_NormalMerge.l0 kq t102 t103 (wrap64 (Int.tmod a2 8)) x10_1 y107 (⟨#[]⟩ : ByteArray) x13_1 a1_0 a1_1 a1_2 = some r) ∧ Aside0 (kq ≤ k) ∧ Aside0 (Kd.R k31 31 w' w.heap.size (fun k_ => some k_ ≠ (v108 : Value).ownBlock) v10 x10_1) ∧ Aside0 (Kd.R k31 31 w' w.heap.size (fun k_ => some k_ ≠ (v10 : Value).ownBlock) v108 y107) ∧ Aside0 (w'.heap[gb101]? = some (.cells #[.int .u8 a1_0, .int .u8 a1_1, .int .u8 a1_2] 29 (0, 0))) ∧ Aside0 (Below w.heap.size w w'))
      case atStart => exact ⟨(y104), (0), (by first | rfl | (simp; done) | (simp [*]; done)), H', ⟨Nat.le_refl _⟩, ⟨by (with_reducible repeat (first | apply Kd.R_alloc | apply Kd.R_drewN | apply Kd.R_drew)); exact Kd.R_mono HO106.out (fun _ hk => hk.2)⟩, ⟨by (with_reducible repeat (first | apply Kd.R_alloc | apply Kd.R_drewN | apply Kd.R_drew)); exact Kd.R_mono HO109.out (fun _ hk => hk.2)⟩, ⟨by (with_reducible repeat (first | refine blk_drewN ?_ _ | refine blk_drew ?_ | refine blk_alloc ?_ _)); exact BK101.out⟩, ⟨by repeat (first | (with_reducible first | exact HB.out | apply below_alloc | apply pw_below_drewN | apply below_drew1 | refine below_set ?_ GE101.out) | exact HB.out)⟩⟩
      case round =>
        clear H'
        try clear c1
        try clear p2
        try clear c6
        try clear c6b0
        try clear c6b1
        try clear p6
        try clear c7
        try clear c7b0
        try clear c7b1
        try clear c14
        obtain ⟨x10_1, x13_1, rfl, HA, HK1, HO_10, HO_11, BK101, HB⟩ := hrel
        cases gk with
        | zero => exact absurd HA.out (by simp [epitomelaw05_NormalMerge.l0])
        | succ k1 =>
          have H := HA.out
          clear HA
          simp only [epitomelaw05_NormalMerge.l0] at H
          by_cases c16 : x13_1 < (wrap64 (Int.tmod a1_0 8))
          · rw [if_pos c16] at H
            have c16b0 : decide (x13_1 < (wrap64 (Int.tmod a1_0 8))) = true := decide_eq_true c16
            clear c16
            by_cases c17 : x10_1.length < 4398046511104
            · rw [if_pos c17] at H
              have LMc17 := Aside0.mk c17
              clear c17
              obtain ⟨y110, hy110⟩ : ∃ y_ : List (S31), y_ = (x10_1 ++ [(⟨1, (wrap64 (Int.tmod a2 8)), (⟨#[]⟩ : ByteArray)⟩ : S31)]) := ⟨_, rfl⟩
              replace H : (epitomelaw05_NormalMerge.l0 k1 t102 t103 (wrap64 (Int.tmod a2 8)) y110 y107 (⟨#[]⟩ : ByteArray) (wrap64 (x13_1 + 1)) a1_0 a1_1 a1_2) = some r := by first | (rw [hy110]; with_reducible exact H) | (have H2_ := (Option.bind_some _ _).symm.trans H; rw [hy110]; with_reducible exact H2_) | (have H2_ := (Option.bind_some _ _).symm.trans H; with_reducible exact H2_) | with_reducible exact H | (rw [hy110]; exact H) | exact H
              have Ny110 := Aside0.mk hy110
              clear hy110
              have H' := Aside0.mk H
              clear H
              have hcz18_0 : wr.cell? ⟨gb101, 0, none⟩ = some (.int .u8 a1_0) := (blk_cell BK101.out 0).trans rfl
              have hcz18_1 : wr.cell? ⟨gb101, 1, none⟩ = some (.int .u8 a1_1) := (blk_cell BK101.out 1).trans rfl
              have hcz18_2 : wr.cell? ⟨gb101, 2, none⟩ = some (.int .u8 a1_2) := (blk_cell BK101.out 2).trans rfl
              have hfz18_0 := blk_frozen BK101.out 0
              have hfz18_1 := blk_frozen BK101.out 1
              have hfz18_2 := blk_frozen BK101.out 2
              go_wp2_with (first | ((with_reducible refine gate_builtin (b := .append) (xs := #[.tmp 36, .tmp 39]) rfl ?_); at_builtin; refine Kd.R_append k31 (w0 := w) w.heap.size rfl (.tmp 36) (.tmp 39) 22 31 (.agg #[(.int .i64 0), (.int .i64 0), (.string ⟨#[]⟩)]) 32 rfl Try.underlying22 info31 rfl (by decide) (by omega) u10 x10_1 (⟨1, (wrap64 (Int.tmod a2 8)), (⟨#[]⟩ : ByteArray)⟩ : S31) [.int .i64 1, .int .i64 (wrap64 (Int.tmod a2 8)), .string (⟨#[]⟩ : ByteArray)] (fun k_ => some k_ ≠ (v108 : Value).ownBlock) (fun _ => False) rfl rfl ?aP (fun _ hk => hk.elim) ?aF ?aO ?aB ?aS ?aL ?_; (case aP => exact k31_mkM _ _ _ (⟨1, (wrap64 (Int.tmod a2 8)), (⟨#[]⟩ : ByteArray)⟩ : S31)); (case aB => exact (by repeat (first | (with_reducible first | exact HB.out | apply below_alloc | apply pw_below_drewN | apply below_drew1 | refine below_set ?_ GE101.out) | exact HB.out))); (case aF => exact (fun k_ hk => Kd.fresh' (Kd.R_lt (by (with_reducible repeat (first | apply Kd.R_alloc | apply Kd.R_drewN | apply Kd.R_drew)); exact HO_11.out)) k_ hk)); (case aO => exact (by (with_reducible repeat (first | apply Kd.R_alloc | apply Kd.R_drewN | apply Kd.R_drew)); exact HO_10.out)); (case aS => exact (below_size (by repeat (first | (with_reducible first | exact HB.out | apply below_alloc | apply pw_below_drewN | apply below_drew1 | refine below_set ?_ GE101.out) | exact HB.out)))); (case aL => have := LMc17.out; omega); intro v111 w19 ho hb hg hat; rw [← Ny110.out] at ho; have n0_ := Aside0.mk (Kd.R_after (ok := (fun _ => True)) (by (with_reducible repeat (first | apply Kd.R_alloc | apply Kd.R_drewN | apply Kd.R_drew)); exact Kd.R_mono HO_11.out (fun _ hk => ⟨trivial, hk⟩)) hg hat); have n1_ := Aside0.mk (blk_grown (g := gb101) (o := .cells #[.int .u8 a1_0, .int .u8 a1_1, .int .u8 a1_2] 29 (0, 0)) (by (with_reducible repeat (first | refine blk_drewN ?_ _ | refine blk_drew ?_ | refine blk_alloc ?_ _)); exact BK101.out) hg (Kd.R_ne HO_10.out BK101.out (by decide))); have n2_ := Aside0.mk (hb); have n3_ := Aside0.mk (ho); clear HO_11; clear BK101; clear HB; clear HO_10; have HO_11 := n0_; have BK101 := n1_; have HB := n2_; have HO112 := n3_; clear n0_ n1_ n2_ n3_; clear ho hb hg hat))
              go_roundg k1
              case measure => have := HK1.out; omega
              case rel => exact ⟨(y110), (wrap64 (x13_1 + 1)), (by first | rfl | (simp; done) | (simp [*]; done)), H', ⟨by have := HK1.out; omega⟩, ⟨by (with_reducible repeat (first | apply Kd.R_alloc | apply Kd.R_drewN | apply Kd.R_drew)); exact HO112.out⟩, ⟨by (with_reducible repeat (first | apply Kd.R_alloc | apply Kd.R_drewN | apply Kd.R_drew)); exact Kd.R_mono HO_11.out (fun _ hk => hk.2)⟩, ⟨by (with_reducible repeat (first | refine blk_drewN ?_ _ | refine blk_drew ?_ | refine blk_alloc ?_ _)); exact BK101.out⟩, ⟨by repeat (first | (with_reducible first | exact HB.out | apply below_alloc | apply pw_below_drewN | apply below_drew1 | refine below_set ?_ GE101.out) | exact HB.out)⟩⟩
            · rw [if_neg c17] at H
              exact absurd H (by simp)
          · rw [if_neg c16] at H
            have c16b0 : decide (x13_1 < (wrap64 (Int.tmod a1_0 8))) = false := decide_eq_false c16
            clear c16
            have H' := Aside0.mk H
            clear H
            have hcz20_0 : wr.cell? ⟨gb101, 0, none⟩ = some (.int .u8 a1_0) := (blk_cell BK101.out 0).trans rfl
            have hcz20_1 : wr.cell? ⟨gb101, 1, none⟩ = some (.int .u8 a1_1) := (blk_cell BK101.out 1).trans rfl
            have hcz20_2 : wr.cell? ⟨gb101, 2, none⟩ = some (.int .u8 a1_2) := (blk_cell BK101.out 2).trans rfl
            have hfz20_0 := blk_frozen BK101.out 0
            have hfz20_1 := blk_frozen BK101.out 1
            have hfz20_2 := blk_frozen BK101.out 2
            go_wp2
            go_loopg [10, 12, 14] k1 (fun kq v10 v12 v14 w' => ∃ (x10_2 : List (S31)) (x12_2 : ByteArray) (x14_2 : Int), v12 = .string x12_2 ∧ v14 = .int .i64 x14_2 ∧ Aside0 (epitomelaw05_NormalMerge.l1 kq t102 t103 (wrap64 (Int.tmod a2 8)) x10_2 y107 x12_2 x14_2 a1_0 a1_1 a1_2 = some r) ∧ Aside0 (kq ≤ k1) ∧ Aside0 (Kd.R k31 31 w' w.heap.size (fun k_ => some k_ ≠ (v108 : Value).ownBlock) v10 x10_2) ∧ Aside0 (Kd.R k31 31 w' w.heap.size (fun k_ => some k_ ≠ (v10 : Value).ownBlock) v108 y107) ∧ Aside0 (w'.heap[gb101]? = some (.cells #[.int .u8 a1_0, .int .u8 a1_1, .int .u8 a1_2] 29 (0, 0))) ∧ Aside0 (Below w.heap.size w w'))
            case atStart => exact ⟨(x10_1), ((⟨#[]⟩ : ByteArray)), (0), (by first | rfl | (simp; done) | (simp [*]; done)), (by first | rfl | (simp; done) | (simp [*]; done)), H', ⟨Nat.le_refl _⟩, ⟨by (with_reducible repeat (first | apply Kd.R_alloc | apply Kd.R_drewN | apply Kd.R_drew)); exact HO_10.out⟩, ⟨by (with_reducible repeat (first | apply Kd.R_alloc | apply Kd.R_drewN | apply Kd.R_drew)); exact HO_11.out⟩, ⟨by (with_reducible repeat (first | refine blk_drewN ?_ _ | refine blk_drew ?_ | refine blk_alloc ?_ _)); exact BK101.out⟩, ⟨by repeat (first | (with_reducible first | exact HB.out | apply below_alloc | apply pw_below_drewN | apply below_drew1 | refine below_set ?_ GE101.out) | exact HB.out)⟩⟩
            case round =>
              clear H'
              try clear c1
              try clear p2
              try clear c6
              try clear c6b0
              try clear c6b1
              try clear p6
              try clear c7
              try clear c7b0
              try clear c7b1
              try clear c14
              try clear c16
              try clear c16b0
              try clear c17
              try clear hcz18_0
              try clear hcz18_1
              try clear hcz18_2
              try clear hcz20_0
              try clear hcz20_1
              try clear hcz20_2
              try clear hfz18_0
              try clear hfz18_1
              try clear hfz18_2
              try clear hfz20_0
              try clear hfz20_1
              try clear hfz20_2
              try clear p2
              try clear p6
              obtain ⟨x10_2, x12_2, x14_2, rfl, rfl, HA, HK2, HO_10, HO_11, BK101, HB⟩ := hrel
              cases gk with
              | zero => exact absurd HA.out (by simp [epitomelaw05_NormalMerge.l1])
              | succ k2 =>
                have H := HA.out
                clear HA
                simp only [epitomelaw05_NormalMerge.l1] at H
                by_cases c21 : x14_2 < (wrap64 (Int.tmod a1_1 8))
                · rw [if_pos c21] at H
                  have c21b0 : decide (x14_2 < (wrap64 (Int.tmod a1_1 8))) = true := decide_eq_true c21
                  clear c21
                  by_cases c22 : x10_2.length < 4398046511104
                  · rw [if_pos c22] at H
                    have LMc22 := Aside0.mk c22
                    clear c22
                    obtain ⟨y113, hy113⟩ : ∃ y_ : List (S31), y_ = (x10_2 ++ [(⟨2, 0, t103⟩ : S31)]) := ⟨_, rfl⟩
                    replace H : (if x12_2.size + t103.size ≤ 9223372036854775807 then (epitomelaw05_NormalMerge.l1 k2 t102 t103 (wrap64 (Int.tmod a2 8)) y113 y107 (x12_2 ++ t103) (wrap64 (x14_2 + 1)) a1_0 a1_1 a1_2) else (none)) = some r := by first | (rw [hy113]; with_reducible exact H) | (have H2_ := (Option.bind_some _ _).symm.trans H; rw [hy113]; with_reducible exact H2_) | (have H2_ := (Option.bind_some _ _).symm.trans H; with_reducible exact H2_) | with_reducible exact H | (rw [hy113]; exact H) | exact H
                    have Ny113 := Aside0.mk hy113
                    clear hy113
                    by_cases c23 : x12_2.size + t103.size ≤ 9223372036854775807
                    · rw [if_pos c23] at H
                      have c23b0 := eq_true c23
                      have c23b1 : decide (x12_2.size + t103.size ≤ 9223372036854775807) = true := decide_eq_true c23
                      try have c23b2 : (9223372036854775807 < x12_2.size + t103.size) = False := eq_false (Nat.not_lt.2 c23)
                      have H' := Aside0.mk H
                      clear H
                      have hcz24_0 : wr.cell? ⟨gb101, 0, none⟩ = some (.int .u8 a1_0) := (blk_cell BK101.out 0).trans rfl
                      have hcz24_1 : wr.cell? ⟨gb101, 1, none⟩ = some (.int .u8 a1_1) := (blk_cell BK101.out 1).trans rfl
                      have hcz24_2 : wr.cell? ⟨gb101, 2, none⟩ = some (.int .u8 a1_2) := (blk_cell BK101.out 2).trans rfl
                      have hfz24_0 := blk_frozen BK101.out 0
                      have hfz24_1 := blk_frozen BK101.out 1
                      have hfz24_2 := blk_frozen BK101.out 2
                      go_wp2_with (first | ((with_reducible refine gate_builtin (b := .append) (xs := #[.tmp 49, .tmp 52]) rfl ?_); at_builtin; refine Kd.R_append k31 (w0 := w) w.heap.size rfl (.tmp 49) (.tmp 52) 22 31 (.agg #[(.int .i64 0), (.int .i64 0), (.string ⟨#[]⟩)]) 32 rfl Try.underlying22 info31 rfl (by decide) (by omega) u10 x10_2 (⟨2, 0, t103⟩ : S31) [.int .i64 2, .int .i64 0, .string t103] (fun k_ => some k_ ≠ (v108 : Value).ownBlock) (fun _ => False) rfl rfl ?aP (fun _ hk => hk.elim) ?aF ?aO ?aB ?aS ?aL ?_; (case aP => exact k31_mkM _ _ _ (⟨2, 0, t103⟩ : S31)); (case aB => exact (by repeat (first | (with_reducible first | exact HB.out | apply below_alloc | apply pw_below_drewN | apply below_drew1 | refine below_set ?_ GE101.out) | exact HB.out))); (case aF => exact (fun k_ hk => Kd.fresh' (Kd.R_lt (by (with_reducible repeat (first | apply Kd.R_alloc | apply Kd.R_drewN | apply Kd.R_drew)); exact HO_11.out)) k_ hk)); (case aO => exact (by (with_reducible repeat (first | apply Kd.R_alloc | apply Kd.R_drewN | apply Kd.R_drew)); exact HO_10.out)); (case aS => exact (below_size (by repeat (first | (with_reducible first | exact HB.out | apply below_alloc | apply pw_below_drewN | apply below_drew1 | refine below_set ?_ GE101.out) | exact HB.out)))); (case aL => have := LMc22.out; omega); intro v114 w25 ho hb hg hat; rw [← Ny113.out] at ho; have n0_ := Aside0.mk (Kd.R_after (ok := (fun _ => True)) (by (with_reducible repeat (first | apply Kd.R_alloc | apply Kd.R_drewN | apply Kd.R_drew)); exact Kd.R_mono HO_11.out (fun _ hk => ⟨trivial, hk⟩)) hg hat); have n1_ := Aside0.mk (blk_grown (g := gb101) (o := .cells #[.int .u8 a1_0, .int .u8 a1_1, .int .u8 a1_2] 29 (0, 0)) (by (with_reducible repeat (first | refine blk_drewN ?_ _ | refine blk_drew ?_ | refine blk_alloc ?_ _)); exact BK101.out) hg (Kd.R_ne HO_10.out BK101.out (by decide))); have n2_ := Aside0.mk (hb); have n3_ := Aside0.mk (ho); clear HO_11; clear BK101; clear HB; clear HO_10; have HO_11 := n0_; have BK101 := n1_; have HB := n2_; have HO115 := n3_; clear n0_ n1_ n2_ n3_; clear ho hb hg hat))
                      go_roundg k2
                      case measure => have := HK1.out; have := HK2.out; omega
                      case rel => exact ⟨(y113), (x12_2 ++ t103), (wrap64 (x14_2 + 1)), (by first | rfl | (simp; done) | (simp [*]; done)), (by first | rfl | (simp; done) | (simp [*]; done)), H', ⟨by have := HK1.out; have := HK2.out; omega⟩, ⟨by (with_reducible repeat (first | apply Kd.R_alloc | apply Kd.R_drewN | apply Kd.R_drew)); exact HO115.out⟩, ⟨by (with_reducible repeat (first | apply Kd.R_alloc | apply Kd.R_drewN | apply Kd.R_drew)); exact Kd.R_mono HO_11.out (fun _ hk => hk.2)⟩, ⟨by (with_reducible repeat (first | refine blk_drewN ?_ _ | refine blk_drew ?_ | refine blk_alloc ?_ _)); exact BK101.out⟩, ⟨by repeat (first | (with_reducible first | exact HB.out | apply below_alloc | apply pw_below_drewN | apply below_drew1 | refine below_set ?_ GE101.out) | exact HB.out)⟩⟩
                    · rw [if_neg c23] at H
                      exact absurd H (by simp)
                  · rw [if_neg c22] at H
                    exact absurd H (by simp)
                · rw [if_neg c21] at H
                  have c21b0 : decide (x14_2 < (wrap64 (Int.tmod a1_1 8))) = false := decide_eq_false c21
                  clear c21
                  have H' := Aside0.mk H
                  clear H
                  have hcz26_0 : wr.cell? ⟨gb101, 0, none⟩ = some (.int .u8 a1_0) := (blk_cell BK101.out 0).trans rfl
                  have hcz26_1 : wr.cell? ⟨gb101, 1, none⟩ = some (.int .u8 a1_1) := (blk_cell BK101.out 1).trans rfl
                  have hcz26_2 : wr.cell? ⟨gb101, 2, none⟩ = some (.int .u8 a1_2) := (blk_cell BK101.out 2).trans rfl
                  have hfz26_0 := blk_frozen BK101.out 0
                  have hfz26_1 := blk_frozen BK101.out 1
                  have hfz26_2 := blk_frozen BK101.out 2
                  go_wp2
                  go_loopg [10, 15] k2 (fun kq v10 v15 w' => ∃ (x10_3 : List (S31)) (x15_3 : Int), v15 = .int .i64 x15_3 ∧ Aside0 (epitomelaw05_NormalMerge.l2 kq t102 (wrap64 (Int.tmod a2 8)) x10_3 y107 x12_2 x15_3 a1_0 a1_1 a1_2 = some r) ∧ Aside0 (kq ≤ k2) ∧ Aside0 (Kd.R k31 31 w' w.heap.size (fun k_ => some k_ ≠ (v108 : Value).ownBlock) v10 x10_3) ∧ Aside0 (Kd.R k31 31 w' w.heap.size (fun k_ => some k_ ≠ (v10 : Value).ownBlock) v108 y107) ∧ Aside0 (w'.heap[gb101]? = some (.cells #[.int .u8 a1_0, .int .u8 a1_1, .int .u8 a1_2] 29 (0, 0))) ∧ Aside0 (Below w.heap.size w w'))
                  case atStart => exact ⟨(x10_2), (0), (by first | rfl | (simp; done) | (simp [*]; done)), H', ⟨Nat.le_refl _⟩, ⟨by (with_reducible repeat (first | apply Kd.R_alloc | apply Kd.R_drewN | apply Kd.R_drew)); exact HO_10.out⟩, ⟨by (with_reducible repeat (first | apply Kd.R_alloc | apply Kd.R_drewN | apply Kd.R_drew)); exact HO_11.out⟩, ⟨by (with_reducible repeat (first | refine blk_drewN ?_ _ | refine blk_drew ?_ | refine blk_alloc ?_ _)); exact BK101.out⟩, ⟨by repeat (first | (with_reducible first | exact HB.out | apply below_alloc | apply pw_below_drewN | apply below_drew1 | refine below_set ?_ GE101.out) | exact HB.out)⟩⟩
                  case round =>
                    clear H'
                    try clear c1
                    try clear c2
                    try clear p2
                    try clear c6
                    try clear c6b0
                    try clear c6b1
                    try clear p6
                    try clear c7
                    try clear c7b0
                    try clear c7b1
                    try clear c14
                    try clear c16
                    try clear c16b0
                    try clear c17
                    try clear c21
                    try clear c21b0
                    try clear c22
                    try clear c23
                    try clear c23b0
                    try clear c23b1
                    try clear c23b2
                    try clear hcz18_0
                    try clear hcz18_1
                    try clear hcz18_2
                    try clear hcz20_0
                    try clear hcz20_1
                    try clear hcz20_2
                    try clear hcz24_0
                    try clear hcz24_1
                    try clear hcz24_2
                    try clear hcz26_0
                    try clear hcz26_1
                    try clear hcz26_2
                    try clear hfz18_0
                    try clear hfz18_1
                    try clear hfz18_2
                    try clear hfz20_0
                    try clear hfz20_1
                    try clear hfz20_2
                    try clear hfz24_0
                    try clear hfz24_1
                    try clear hfz24_2
                    try clear hfz26_0
                    try clear hfz26_1
                    try clear hfz26_2
                    try clear p2
                    try clear p6
                    obtain ⟨x10_3, x15_3, rfl, HA, HK3, HO_10, HO_11, BK101, HB⟩ := hrel
                    cases gk with
                    | zero => exact absurd HA.out (by simp [epitomelaw05_NormalMerge.l2])
                    | succ k3 =>
                      have H := HA.out
                      clear HA
                      simp only [epitomelaw05_NormalMerge.l2] at H
                      by_cases c27 : x15_3 < (wrap64 (Int.tmod a1_2 8))
                      · rw [if_pos c27] at H
                        have c27b0 : decide (x15_3 < (wrap64 (Int.tmod a1_2 8))) = true := decide_eq_true c27
                        clear c27
                        by_cases c28 : x10_3.length < 4398046511104
                        · rw [if_pos c28] at H
                          have LMc28 := Aside0.mk c28
                          clear c28
                          obtain ⟨y116, hy116⟩ : ∃ y_ : List (S31), y_ = (x10_3 ++ [(⟨3, (wrap64 (Int.tmod a2 8)), (⟨#[]⟩ : ByteArray)⟩ : S31)]) := ⟨_, rfl⟩
                          replace H : (epitomelaw05_NormalMerge.l2 k3 t102 (wrap64 (Int.tmod a2 8)) y116 y107 x12_2 (wrap64 (x15_3 + 1)) a1_0 a1_1 a1_2) = some r := by first | (rw [hy116]; with_reducible exact H) | (have H2_ := (Option.bind_some _ _).symm.trans H; rw [hy116]; with_reducible exact H2_) | (have H2_ := (Option.bind_some _ _).symm.trans H; with_reducible exact H2_) | with_reducible exact H | (rw [hy116]; exact H) | exact H
                          have Ny116 := Aside0.mk hy116
                          clear hy116
                          have H' := Aside0.mk H
                          clear H
                          have hcz29_0 : wr.cell? ⟨gb101, 0, none⟩ = some (.int .u8 a1_0) := (blk_cell BK101.out 0).trans rfl
                          have hcz29_1 : wr.cell? ⟨gb101, 1, none⟩ = some (.int .u8 a1_1) := (blk_cell BK101.out 1).trans rfl
                          have hcz29_2 : wr.cell? ⟨gb101, 2, none⟩ = some (.int .u8 a1_2) := (blk_cell BK101.out 2).trans rfl
                          have hfz29_0 := blk_frozen BK101.out 0
                          have hfz29_1 := blk_frozen BK101.out 1
                          have hfz29_2 := blk_frozen BK101.out 2
                          go_wp2_with (first | ((with_reducible refine gate_builtin (b := .append) (xs := #[.tmp 65, .tmp 68]) rfl ?_); at_builtin; refine Kd.R_append k31 (w0 := w) w.heap.size rfl (.tmp 65) (.tmp 68) 22 31 (.agg #[(.int .i64 0), (.int .i64 0), (.string ⟨#[]⟩)]) 32 rfl Try.underlying22 info31 rfl (by decide) (by omega) u10 x10_3 (⟨3, (wrap64 (Int.tmod a2 8)), (⟨#[]⟩ : ByteArray)⟩ : S31) [.int .i64 3, .int .i64 (wrap64 (Int.tmod a2 8)), .string (⟨#[]⟩ : ByteArray)] (fun k_ => some k_ ≠ (v108 : Value).ownBlock) (fun _ => False) rfl rfl ?aP (fun _ hk => hk.elim) ?aF ?aO ?aB ?aS ?aL ?_; (case aP => exact k31_mkM _ _ _ (⟨3, (wrap64 (Int.tmod a2 8)), (⟨#[]⟩ : ByteArray)⟩ : S31)); (case aB => exact (by repeat (first | (with_reducible first | exact HB.out | apply below_alloc | apply pw_below_drewN | apply below_drew1 | refine below_set ?_ GE101.out) | exact HB.out))); (case aF => exact (fun k_ hk => Kd.fresh' (Kd.R_lt (by (with_reducible repeat (first | apply Kd.R_alloc | apply Kd.R_drewN | apply Kd.R_drew)); exact HO_11.out)) k_ hk)); (case aO => exact (by (with_reducible repeat (first | apply Kd.R_alloc | apply Kd.R_drewN | apply Kd.R_drew)); exact HO_10.out)); (case aS => exact (below_size (by repeat (first | (with_reducible first | exact HB.out | apply below_alloc | apply pw_below_drewN | apply below_drew1 | refine below_set ?_ GE101.out) | exact HB.out)))); (case aL => have := LMc28.out; omega); intro v117 w30 ho hb hg hat; rw [← Ny116.out] at ho; have n0_ := Aside0.mk (Kd.R_after (ok := (fun _ => True)) (by (with_reducible repeat (first | apply Kd.R_alloc | apply Kd.R_drewN | apply Kd.R_drew)); exact Kd.R_mono HO_11.out (fun _ hk => ⟨trivial, hk⟩)) hg hat); have n1_ := Aside0.mk (blk_grown (g := gb101) (o := .cells #[.int .u8 a1_0, .int .u8 a1_1, .int .u8 a1_2] 29 (0, 0)) (by (with_reducible repeat (first | refine blk_drewN ?_ _ | refine blk_drew ?_ | refine blk_alloc ?_ _)); exact BK101.out) hg (Kd.R_ne HO_10.out BK101.out (by decide))); have n2_ := Aside0.mk (hb); have n3_ := Aside0.mk (ho); clear HO_11; clear BK101; clear HB; clear HO_10; have HO_11 := n0_; have BK101 := n1_; have HB := n2_; have HO118 := n3_; clear n0_ n1_ n2_ n3_; clear ho hb hg hat))
                          go_roundg k3
                          case measure => have := HK1.out; have := HK2.out; have := HK3.out; omega
                          case rel => exact ⟨(y116), (wrap64 (x15_3 + 1)), (by first | rfl | (simp; done) | (simp [*]; done)), H', ⟨by have := HK1.out; have := HK2.out; have := HK3.out; omega⟩, ⟨by (with_reducible repeat (first | apply Kd.R_alloc | apply Kd.R_drewN | apply Kd.R_drew)); exact HO118.out⟩, ⟨by (with_reducible repeat (first | apply Kd.R_alloc | apply Kd.R_drewN | apply Kd.R_drew)); exact Kd.R_mono HO_11.out (fun _ hk => hk.2)⟩, ⟨by (with_reducible repeat (first | refine blk_drewN ?_ _ | refine blk_drew ?_ | refine blk_alloc ?_ _)); exact BK101.out⟩, ⟨by repeat (first | (with_reducible first | exact HB.out | apply below_alloc | apply pw_below_drewN | apply below_drew1 | refine below_set ?_ GE101.out) | exact HB.out)⟩⟩
                        · rw [if_neg c28] at H
                          exact absurd H (by simp)
                      · rw [if_neg c27] at H
                        have c27b0 : decide (x15_3 < (wrap64 (Int.tmod a1_2 8))) = false := decide_eq_false c27
                        clear c27
                        have HC31 := Aside0.mk H
                        clear H
                        have hcz32_0 : wr.cell? ⟨gb101, 0, none⟩ = some (.int .u8 a1_0) := (blk_cell BK101.out 0).trans rfl
                        have hcz32_1 : wr.cell? ⟨gb101, 1, none⟩ = some (.int .u8 a1_1) := (blk_cell BK101.out 1).trans rfl
                        have hcz32_2 : wr.cell? ⟨gb101, 2, none⟩ = some (.int .u8 a1_2) := (blk_cell BK101.out 2).trans rfl
                        have hfz32_0 := blk_frozen BK101.out 0
                        have hfz32_1 := blk_frozen BK101.out 1
                        have hfz32_2 := blk_frozen BK101.out 2
                        go_upto_if 76 with (fail)
                        go_cut [11] (fun v11 wc => ∃ (kq : Nat) (x11_30 : List (S31)), Aside0 (epitomelaw05_NormalMerge.j3 kq t102 (wrap64 (Int.tmod a2 8)) x10_3 x11_30 x12_2 a1_0 a1_1 a1_2 = some r) ∧ Aside0 (kq ≤ k3) ∧ Aside0 (Kd.R k31 31 wc w.heap.size (fun k_ => some k_ ≠ (v11 : Value).ownBlock) u10 x10_3) ∧ Aside0 (Kd.R k31 31 wc w.heap.size (fun k_ => some k_ ≠ (u10 : Value).ownBlock) v11 x11_30) ∧ Aside0 (wc.heap[gb101]? = some (.cells #[.int .u8 a1_0, .int .u8 a1_1, .int .u8 a1_2] 29 (0, 0))) ∧ Aside0 (Below w.heap.size w wc))
                        case first =>
                          have H := HC31.out
                          clear HC31
                          by_cases c33 : (wrap64 ((wrap64 (Int.tmod a1_0 8)) * (wrap64 (Int.tmod a2 8)))) > 0
                          · rw [if_pos c33] at H
                            have c33b0 : decide (0 < (wrap64 ((wrap64 (Int.tmod a1_0 8)) * (wrap64 (Int.tmod a2 8))))) = true := decide_eq_true c33
                            clear c33
                            (first | rw [c33b0] | (simp only [i64_w, i32_w]; rw [c33b0]) | skip)
                            by_cases c34 : y107.length < 4398046511104
                            · rw [if_pos c34] at H
                              have LMc34 := Aside0.mk c34
                              clear c34
                              obtain ⟨y119, hy119⟩ : ∃ y_ : List (S31), y_ = (y107 ++ [(⟨1, wrap64 ((wrap64 (Int.tmod a1_0 8)) * (wrap64 (Int.tmod a2 8))), (⟨#[]⟩ : ByteArray)⟩ : S31)]) := ⟨_, rfl⟩
                              replace H : (epitomelaw05_NormalMerge.j3 k3 t102 (wrap64 (Int.tmod a2 8)) x10_3 y119 x12_2 a1_0 a1_1 a1_2) = some r := by first | (rw [hy119]; with_reducible exact H) | (have H2_ := (Option.bind_some _ _).symm.trans H; rw [hy119]; with_reducible exact H2_) | (have H2_ := (Option.bind_some _ _).symm.trans H; with_reducible exact H2_) | with_reducible exact H | (rw [hy119]; exact H) | exact H
                              have Ny119 := Aside0.mk hy119
                              clear hy119
                              have H' := Aside0.mk H
                              clear H
                              have hcz35_0 : wr.cell? ⟨gb101, 0, none⟩ = some (.int .u8 a1_0) := (blk_cell BK101.out 0).trans rfl
                              have hcz35_1 : wr.cell? ⟨gb101, 1, none⟩ = some (.int .u8 a1_1) := (blk_cell BK101.out 1).trans rfl
                              have hcz35_2 : wr.cell? ⟨gb101, 2, none⟩ = some (.int .u8 a1_2) := (blk_cell BK101.out 2).trans rfl
                              have hfz35_0 := blk_frozen BK101.out 0
                              have hfz35_1 := blk_frozen BK101.out 1
                              have hfz35_2 := blk_frozen BK101.out 2
                              go_wp2_with (first | ((with_reducible refine gate_builtin (b := .append) (xs := #[.tmp 77, .tmp 85]) rfl ?_); at_builtin; refine Kd.R_append k31 (w0 := w) w.heap.size rfl (.tmp 77) (.tmp 85) 22 31 (.agg #[(.int .i64 0), (.int .i64 0), (.string ⟨#[]⟩)]) 32 rfl Try.underlying22 info31 rfl (by decide) (by omega) v108 y107 (⟨1, wrap64 ((wrap64 (Int.tmod a1_0 8)) * (wrap64 (Int.tmod a2 8))), (⟨#[]⟩ : ByteArray)⟩ : S31) [.int .i64 1, .int .i64 (wrap64 ((wrap64 (Int.tmod a1_0 8)) * (wrap64 (Int.tmod a2 8)))), .string (⟨#[]⟩ : ByteArray)] (fun k_ => some k_ ≠ (u10 : Value).ownBlock) (fun _ => False) rfl rfl ?aP (fun _ hk => hk.elim) ?aF ?aO ?aB ?aS ?aL ?_; (case aP => exact k31_mkM _ _ _ (⟨1, wrap64 ((wrap64 (Int.tmod a1_0 8)) * (wrap64 (Int.tmod a2 8))), (⟨#[]⟩ : ByteArray)⟩ : S31)); (case aB => exact (by repeat (first | (with_reducible first | exact HB.out | apply below_alloc | apply pw_below_drewN | apply below_drew1 | refine below_set ?_ GE101.out) | exact HB.out))); (case aF => exact (fun k_ hk => Kd.fresh' (Kd.R_lt (by (with_reducible repeat (first | apply Kd.R_alloc | apply Kd.R_drewN | apply Kd.R_drew)); exact HO_10.out)) k_ hk)); (case aO => exact (by (with_reducible repeat (first | apply Kd.R_alloc | apply Kd.R_drewN | apply Kd.R_drew)); exact HO_11.out)); (case aS => exact (below_size (by repeat (first | (with_reducible first | exact HB.out | apply below_alloc | apply pw_below_drewN | apply below_drew1 | refine below_set ?_ GE101.out) | exact HB.out)))); (case aL => have := LMc34.out; omega); intro v120 w36 ho hb hg hat; rw [← Ny119.out] at ho; have n0_ := Aside0.mk (Kd.R_after (ok := (fun _ => True)) (by (with_reducible repeat (first | apply Kd.R_alloc | apply Kd.R_drewN | apply Kd.R_drew)); exact Kd.R_mono HO_10.out (fun _ hk => ⟨trivial, hk⟩)) hg hat); have n1_ := Aside0.mk (blk_grown (g := gb101) (o := .cells #[.int .u8 a1_0, .int .u8 a1_1, .int .u8 a1_2] 29 (0, 0)) (by (with_reducible repeat (first | refine blk_drewN ?_ _ | refine blk_drew ?_ | refine blk_alloc ?_ _)); exact BK101.out) hg (Kd.R_ne HO_11.out BK101.out (by decide))); have n2_ := Aside0.mk (hb); have n3_ := Aside0.mk (ho); clear HO_10; clear BK101; clear HB; clear HO_11; have HO_10 := n0_; have BK101 := n1_; have HB := n2_; have HO121 := n3_; clear n0_ n1_ n2_ n3_; clear ho hb hg hat))
                              go_meet
                              case rel => exact ⟨_, (y119), H', ⟨by have := HK1.out; have := HK2.out; have := HK3.out; first | omega | exact Nat.le_refl _⟩, ⟨by (with_reducible repeat (first | apply Kd.R_alloc | apply Kd.R_drewN | apply Kd.R_drew)); exact Kd.R_mono HO_10.out (fun _ hk => hk.2)⟩, ⟨by (with_reducible repeat (first | apply Kd.R_alloc | apply Kd.R_drewN | apply Kd.R_drew)); exact HO121.out⟩, ⟨by (with_reducible repeat (first | refine blk_drewN ?_ _ | refine blk_drew ?_ | refine blk_alloc ?_ _)); exact BK101.out⟩, ⟨by repeat (first | (with_reducible first | exact HB.out | apply below_alloc | apply pw_below_drewN | apply below_drew1 | refine below_set ?_ GE101.out) | exact HB.out)⟩⟩
                            · rw [if_neg c34] at H
                              exact absurd H (by simp)
                          · rw [if_neg c33] at H
                            have c33b0 : decide (0 < (wrap64 ((wrap64 (Int.tmod a1_0 8)) * (wrap64 (Int.tmod a2 8))))) = false := decide_eq_false c33
                            clear c33
                            (first | rw [c33b0] | (simp only [i64_w, i32_w]; rw [c33b0]) | skip)
                            have H' := Aside0.mk H
                            clear H
                            go_wp2
                            go_meet
                            case rel => exact ⟨_, (y107), H', ⟨by have := HK1.out; have := HK2.out; have := HK3.out; first | omega | exact Nat.le_refl _⟩, ⟨by (with_reducible repeat (first | apply Kd.R_alloc | apply Kd.R_drewN | apply Kd.R_drew)); exact HO_10.out⟩, ⟨by (with_reducible repeat (first | apply Kd.R_alloc | apply Kd.R_drewN | apply Kd.R_drew)); exact HO_11.out⟩, ⟨by (with_reducible repeat (first | refine blk_drewN ?_ _ | refine blk_drew ?_ | refine blk_alloc ?_ _)); exact BK101.out⟩, ⟨by repeat (first | (with_reducible first | exact HB.out | apply below_alloc | apply pw_below_drewN | apply below_drew1 | refine below_set ?_ GE101.out) | exact HB.out)⟩⟩
                        case rest =>
                          clear HC31
                          try clear c1
                          try clear c2
                          try clear p2
                          try clear c3
                          try clear c6
                          try clear c6b0
                          try clear c6b1
                          try clear p6
                          try clear c7
                          try clear c7b0
                          try clear c7b1
                          try clear c14
                          try clear c16
                          try clear c16b0
                          try clear c17
                          try clear c21
                          try clear c21b0
                          try clear c22
                          try clear c23
                          try clear c23b0
                          try clear c23b1
                          try clear c23b2
                          try clear c27
                          try clear c27b0
                          try clear c28
                          try clear c33
                          try clear c33b0
                          try clear c34
                          try clear hcz18_0
                          try clear hcz18_1
                          try clear hcz18_2
                          try clear hcz20_0
                          try clear hcz20_1
                          try clear hcz20_2
                          try clear hcz24_0
                          try clear hcz24_1
                          try clear hcz24_2
                          try clear hcz26_0
                          try clear hcz26_1
                          try clear hcz26_2
                          try clear hcz29_0
                          try clear hcz29_1
                          try clear hcz29_2
                          try clear hcz32_0
                          try clear hcz32_1
                          try clear hcz32_2
                          try clear hcz35_0
                          try clear hcz35_1
                          try clear hcz35_2
                          try clear hfz18_0
                          try clear hfz18_1
                          try clear hfz18_2
                          try clear hfz20_0
                          try clear hfz20_1
                          try clear hfz20_2
                          try clear hfz24_0
                          try clear hfz24_1
                          try clear hfz24_2
                          try clear hfz26_0
                          try clear hfz26_1
                          try clear hfz26_2
                          try clear hfz29_0
                          try clear hfz29_1
                          try clear hfz29_2
                          try clear hfz32_0
                          try clear hfz32_1
                          try clear hfz32_2
                          try clear hfz35_0
                          try clear hfz35_1
                          try clear hfz35_2
                          try clear p2
                          try clear p6
                          obtain ⟨kq, x11_30, HA, HJ30, HO_10, HO_11, BK101, HB⟩ := hcut
                          cases kq with
                          | zero => exact absurd HA.out (by simp [epitomelaw05_NormalMerge.j3])
                          | succ kj30 =>
                            have H := HA.out
                            clear HA
                            simp only [epitomelaw05_NormalMerge.j3] at H
                            have HC37 := Aside0.mk H
                            clear H
                            go_upto_if 88 with (fail)
                            go_cut [11] (fun v11 wc => ∃ (kq : Nat) (x11_36 : List (S31)), Aside0 (epitomelaw05_NormalMerge.j4 kq t102 (wrap64 (Int.tmod a2 8)) x10_3 x11_36 a1_0 a1_1 a1_2 = some r) ∧ Aside0 (kq ≤ kj30) ∧ Aside0 (Kd.R k31 31 wc w.heap.size (fun k_ => some k_ ≠ (v11 : Value).ownBlock) u10 x10_3) ∧ Aside0 (Kd.R k31 31 wc w.heap.size (fun k_ => some k_ ≠ (u10 : Value).ownBlock) v11 x11_36) ∧ Aside0 (wc.heap[gb101]? = some (.cells #[.int .u8 a1_0, .int .u8 a1_1, .int .u8 a1_2] 29 (0, 0))) ∧ Aside0 (Below w.heap.size w wc))
                            case first =>
                              have H := HC37.out
                              clear HC37
                              by_cases c38 : x12_2.toList = ([] : List UInt8)
                              · rw [if_pos c38] at H
                                have c38b0 : (x12_2.toList == ([] : List UInt8)) = true := beq_iff_eq.mpr c38
                                (try (have c38b0e : (x12_2.toList.isEmpty) = true := by simpa using c38b0))
                                have c38b1 : (x12_2.toList != ([] : List UInt8)) = false := bne_eq_false_iff_eq.mpr c38
                                clear c38
                                (first | rw [c38b0] | (simp only [i64_w, i32_w]; rw [c38b0]) | rw [c38b0e] | (simp only [i64_w, i32_w]; rw [c38b0e]) | skip)
                                have H' := Aside0.mk H
                                clear H
                                go_wp2
                                go_meet
                                case rel => exact ⟨_, (x11_30), H', ⟨by have := HK1.out; have := HK2.out; have := HK3.out; have := HJ30.out; first | omega | exact Nat.le_refl _⟩, ⟨by (with_reducible repeat (first | apply Kd.R_alloc | apply Kd.R_drewN | apply Kd.R_drew)); exact HO_10.out⟩, ⟨by (with_reducible repeat (first | apply Kd.R_alloc | apply Kd.R_drewN | apply Kd.R_drew)); exact HO_11.out⟩, ⟨by (with_reducible repeat (first | refine blk_drewN ?_ _ | refine blk_drew ?_ | refine blk_alloc ?_ _)); exact BK101.out⟩, ⟨by repeat (first | (with_reducible first | exact HB.out | apply below_alloc | apply pw_below_drewN | apply below_drew1 | refine below_set ?_ GE101.out) | exact HB.out)⟩⟩
                              · rw [if_neg c38] at H
                                have c38b0 : (x12_2.toList == ([] : List UInt8)) = false := beq_eq_false_iff_ne.mpr c38
                                (try (have c38b0e : (x12_2.toList.isEmpty) = false := by simpa using c38b0))
                                have c38b1 : (x12_2.toList != ([] : List UInt8)) = true := bne_iff_ne.mpr c38
                                (first | rw [c38b0] | (simp only [i64_w, i32_w]; rw [c38b0]) | rw [c38b0e] | (simp only [i64_w, i32_w]; rw [c38b0e]) | skip)
                                by_cases c39 : x11_30.length < 4398046511104
                                · rw [if_pos c39] at H
                                  have LMc39 := Aside0.mk c39
                                  clear c39
                                  obtain ⟨y122, hy122⟩ : ∃ y_ : List (S31), y_ = (x11_30 ++ [(⟨2, 0, x12_2⟩ : S31)]) := ⟨_, rfl⟩
                                  replace H : (epitomelaw05_NormalMerge.j4 kj30 t102 (wrap64 (Int.tmod a2 8)) x10_3 y122 a1_0 a1_1 a1_2) = some r := by first | (rw [hy122]; with_reducible exact H) | (have H2_ := (Option.bind_some _ _).symm.trans H; rw [hy122]; with_reducible exact H2_) | (have H2_ := (Option.bind_some _ _).symm.trans H; with_reducible exact H2_) | with_reducible exact H | (rw [hy122]; exact H) | exact H
                                  have Ny122 := Aside0.mk hy122
                                  clear hy122
                                  have H' := Aside0.mk H
                                  clear H
                                  go_wp2_with (first | ((with_reducible refine gate_builtin (b := .append) (xs := #[.tmp 89, .tmp 92]) rfl ?_); at_builtin; refine Kd.R_append k31 (w0 := w) w.heap.size rfl (.tmp 89) (.tmp 92) 22 31 (.agg #[(.int .i64 0), (.int .i64 0), (.string ⟨#[]⟩)]) 32 rfl Try.underlying22 info31 rfl (by decide) (by omega) u11 x11_30 (⟨2, 0, x12_2⟩ : S31) [.int .i64 2, .int .i64 0, .string x12_2] (fun k_ => some k_ ≠ (u10 : Value).ownBlock) (fun _ => False) rfl rfl ?aP (fun _ hk => hk.elim) ?aF ?aO ?aB ?aS ?aL ?_; (case aP => exact k31_mkM _ _ _ (⟨2, 0, x12_2⟩ : S31)); (case aB => exact (by repeat (first | (with_reducible first | exact HB.out | apply below_alloc | apply pw_below_drewN | apply below_drew1 | refine below_set ?_ GE101.out) | exact HB.out))); (case aF => exact (fun k_ hk => Kd.fresh' (Kd.R_lt (by (with_reducible repeat (first | apply Kd.R_alloc | apply Kd.R_drewN | apply Kd.R_drew)); exact HO_10.out)) k_ hk)); (case aO => exact (by (with_reducible repeat (first | apply Kd.R_alloc | apply Kd.R_drewN | apply Kd.R_drew)); exact HO_11.out)); (case aS => exact (below_size (by repeat (first | (with_reducible first | exact HB.out | apply below_alloc | apply pw_below_drewN | apply below_drew1 | refine below_set ?_ GE101.out) | exact HB.out)))); (case aL => have := LMc39.out; omega); intro v123 w40 ho hb hg hat; rw [← Ny122.out] at ho; have n0_ := Aside0.mk (Kd.R_after (ok := (fun _ => True)) (by (with_reducible repeat (first | apply Kd.R_alloc | apply Kd.R_drewN | apply Kd.R_drew)); exact Kd.R_mono HO_10.out (fun _ hk => ⟨trivial, hk⟩)) hg hat); have n1_ := Aside0.mk (blk_grown (g := gb101) (o := .cells #[.int .u8 a1_0, .int .u8 a1_1, .int .u8 a1_2] 29 (0, 0)) (by (with_reducible repeat (first | refine blk_drewN ?_ _ | refine blk_drew ?_ | refine blk_alloc ?_ _)); exact BK101.out) hg (Kd.R_ne HO_11.out BK101.out (by decide))); have n2_ := Aside0.mk (hb); have n3_ := Aside0.mk (ho); clear HO_10; clear BK101; clear HB; clear HO_11; have HO_10 := n0_; have BK101 := n1_; have HB := n2_; have HO124 := n3_; clear n0_ n1_ n2_ n3_; clear ho hb hg hat))
                                  go_meet
                                  case rel => exact ⟨_, (y122), H', ⟨by have := HK1.out; have := HK2.out; have := HK3.out; have := HJ30.out; first | omega | exact Nat.le_refl _⟩, ⟨by (with_reducible repeat (first | apply Kd.R_alloc | apply Kd.R_drewN | apply Kd.R_drew)); exact Kd.R_mono HO_10.out (fun _ hk => hk.2)⟩, ⟨by (with_reducible repeat (first | apply Kd.R_alloc | apply Kd.R_drewN | apply Kd.R_drew)); exact HO124.out⟩, ⟨by (with_reducible repeat (first | refine blk_drewN ?_ _ | refine blk_drew ?_ | refine blk_alloc ?_ _)); exact BK101.out⟩, ⟨by repeat (first | (with_reducible first | exact HB.out | apply below_alloc | apply pw_below_drewN | apply below_drew1 | refine below_set ?_ GE101.out) | exact HB.out)⟩⟩
                                · rw [if_neg c39] at H
                                  exact absurd H (by simp)
                            case rest =>
                              clear HC37
                              try clear c1
                              try clear c2
                              try clear p2
                              try clear c3
                              try clear c6
                              try clear c6b0
                              try clear c6b1
                              try clear p6
                              try clear c7
                              try clear c7b0
                              try clear c7b1
                              try clear c14
                              try clear c16
                              try clear c16b0
                              try clear c17
                              try clear c21
                              try clear c21b0
                              try clear c22
                              try clear c23
                              try clear c23b0
                              try clear c23b1
                              try clear c23b2
                              try clear c27
                              try clear c27b0
                              try clear c28
                              try clear c33
                              try clear c33b0
                              try clear c34
                              try clear c38
                              try clear c38b0
                              try clear c38b1
                              try clear c39
                              try clear hcz18_0
                              try clear hcz18_1
                              try clear hcz18_2
                              try clear hcz20_0
                              try clear hcz20_1
                              try clear hcz20_2
                              try clear hcz24_0
                              try clear hcz24_1
                              try clear hcz24_2
                              try clear hcz26_0
                              try clear hcz26_1
                              try clear hcz26_2
                              try clear hcz29_0
                              try clear hcz29_1
                              try clear hcz29_2
                              try clear hcz32_0
                              try clear hcz32_1
                              try clear hcz32_2
                              try clear hcz35_0
                              try clear hcz35_1
                              try clear hcz35_2
                              try clear hfz18_0
                              try clear hfz18_1
                              try clear hfz18_2
                              try clear hfz20_0
                              try clear hfz20_1
                              try clear hfz20_2
                              try clear hfz24_0
                              try clear hfz24_1
                              try clear hfz24_2
                              try clear hfz26_0
                              try clear hfz26_1
                              try clear hfz26_2
                              try clear hfz29_0
                              try clear hfz29_1
                              try clear hfz29_2
                              try clear hfz32_0
                              try clear hfz32_1
                              try clear hfz32_2
                              try clear hfz35_0
                              try clear hfz35_1
                              try clear hfz35_2
                              try clear p2
                              try clear p6
                              obtain ⟨kq, x11_36, HA, HJ36, HO_10, HO_11, BK101, HB⟩ := hcut
                              cases kq with
                              | zero => exact absurd HA.out (by simp [epitomelaw05_NormalMerge.j4])
                              | succ kj36 =>
                                have H := HA.out
                                clear HA
                                simp only [epitomelaw05_NormalMerge.j4] at H
                                by_cases c41 : (wrap64 ((wrap64 (Int.tmod a1_2 8)) * (wrap64 (Int.tmod a2 8)))) > 0
                                · rw [if_pos c41] at H
                                  have c41b0 : decide (0 < (wrap64 ((wrap64 (Int.tmod a1_2 8)) * (wrap64 (Int.tmod a2 8))))) = true := decide_eq_true c41
                                  clear c41
                                  by_cases c42 : x11_36.length < 4398046511104
                                  · rw [if_pos c42] at H
                                    have LMc42 := Aside0.mk c42
                                    clear c42
                                    obtain ⟨y125, hy125⟩ : ∃ y_ : List (S31), y_ = (x11_36 ++ [(⟨3, wrap64 ((wrap64 (Int.tmod a1_2 8)) * (wrap64 (Int.tmod a2 8))), (⟨#[]⟩ : ByteArray)⟩ : S31)]) := ⟨_, rfl⟩
                                    replace H : (if t102 = true then ((normal_Of.f kj36 x10_3).bind fun t128 => ((epitomeref04_Same.f kj36 t128 y125).bind fun t131 => (if t131 = true then ((normal_Is.f kj36 y125).bind fun t132 => (some t132)) else (some false)))) else (some false)) = some r := by first | (rw [hy125]; with_reducible exact H) | (have H2_ := (Option.bind_some _ _).symm.trans H; rw [hy125]; with_reducible exact H2_) | (have H2_ := (Option.bind_some _ _).symm.trans H; with_reducible exact H2_) | with_reducible exact H | (rw [hy125]; exact H) | exact H
                                    have Ny125 := Aside0.mk hy125
                                    clear hy125
                                    by_cases c43 : t102 = true
                                    · subst c43
                                      have H1 : ((normal_Of.f kj36 x10_3).bind fun t128 => ((epitomeref04_Same.f kj36 t128 y125).bind fun t131 => (if t131 = true then ((normal_Is.f kj36 y125).bind fun t132 => (some t132)) else (some false)))) = some r := by rw [if_pos rfl] at H; exact H
                                      clear H
                                      have H := H1
                                      clear H1
                                      replace H := Option.bind_eq_some_iff.mp H
                                      obtain ⟨t128, A440, H⟩ := H
                                      replace H : ((epitomeref04_Same.f kj36 t128 y125).bind fun t131 => (if t131 = true then ((normal_Is.f kj36 y125).bind fun t132 => (some t132)) else (some false))) = some r := H
                                      have A44 := Aside0.mk A440
                                      clear A440
                                      replace H := Option.bind_eq_some_iff.mp H
                                      obtain ⟨t131, A450, H⟩ := H
                                      replace H : (if t131 = true then ((normal_Is.f kj36 y125).bind fun t132 => (some t132)) else (some false)) = some r := H
                                      have A45 := Aside0.mk A450
                                      clear A450
                                      by_cases c46 : t131 = true
                                      · subst c46
                                        have H1 : ((normal_Is.f kj36 y125).bind fun t132 => (some t132)) = some r := by rw [if_pos rfl] at H; exact H
                                        clear H
                                        have H := H1
                                        clear H1
                                        replace H := Option.bind_eq_some_iff.mp H
                                        obtain ⟨t132, A470, H⟩ := H
                                        replace H : (some t132) = some r := H
                                        have A47 := Aside0.mk A470
                                        clear A470
                                        obtain rfl := Option.some.inj H
                                        have hcz48_0 : wc.cell? ⟨gb101, 0, none⟩ = some (.int .u8 a1_0) := (blk_cell BK101.out 0).trans rfl
                                        have hcz48_1 : wc.cell? ⟨gb101, 1, none⟩ = some (.int .u8 a1_1) := (blk_cell BK101.out 1).trans rfl
                                        have hcz48_2 : wc.cell? ⟨gb101, 2, none⟩ = some (.int .u8 a1_2) := (blk_cell BK101.out 2).trans rfl
                                        have hfz48_0 := blk_frozen BK101.out 0
                                        have hfz48_1 := blk_frozen BK101.out 1
                                        have hfz48_2 := blk_frozen BK101.out 2
                                        go_wp2_with (first | ((with_reducible refine gate_builtin (b := .append) (xs := #[.tmp 101, .tmp 109]) rfl ?_); at_builtin; refine Kd.R_append k31 (w0 := w) w.heap.size rfl (.tmp 101) (.tmp 109) 22 31 (.agg #[(.int .i64 0), (.int .i64 0), (.string ⟨#[]⟩)]) 32 rfl Try.underlying22 info31 rfl (by decide) (by omega) u11 x11_36 (⟨3, wrap64 ((wrap64 (Int.tmod a1_2 8)) * (wrap64 (Int.tmod a2 8))), (⟨#[]⟩ : ByteArray)⟩ : S31) [.int .i64 3, .int .i64 (wrap64 ((wrap64 (Int.tmod a1_2 8)) * (wrap64 (Int.tmod a2 8)))), .string (⟨#[]⟩ : ByteArray)] (fun k_ => some k_ ≠ (u10 : Value).ownBlock) (fun _ => False) rfl rfl ?aP (fun _ hk => hk.elim) ?aF ?aO ?aB ?aS ?aL ?_; (case aP => exact k31_mkM _ _ _ (⟨3, wrap64 ((wrap64 (Int.tmod a1_2 8)) * (wrap64 (Int.tmod a2 8))), (⟨#[]⟩ : ByteArray)⟩ : S31)); (case aB => exact (by repeat (first | (with_reducible first | exact HB.out | apply below_alloc | apply pw_below_drewN | apply below_drew1 | refine below_set ?_ GE101.out) | exact HB.out))); (case aF => exact (fun k_ hk => Kd.fresh' (Kd.R_lt (by (with_reducible repeat (first | apply Kd.R_alloc | apply Kd.R_drewN | apply Kd.R_drew)); exact HO_10.out)) k_ hk)); (case aO => exact (by (with_reducible repeat (first | apply Kd.R_alloc | apply Kd.R_drewN | apply Kd.R_drew)); exact HO_11.out)); (case aS => exact (below_size (by repeat (first | (with_reducible first | exact HB.out | apply below_alloc | apply pw_below_drewN | apply below_drew1 | refine below_set ?_ GE101.out) | exact HB.out)))); (case aL => have := LMc42.out; omega); intro v126 w49 ho hb hg hat; rw [← Ny125.out] at ho; have n0_ := Aside0.mk (Kd.R_after (ok := (fun _ => True)) (by (with_reducible repeat (first | apply Kd.R_alloc | apply Kd.R_drewN | apply Kd.R_drew)); exact Kd.R_mono HO_10.out (fun _ hk => ⟨trivial, hk⟩)) hg hat); have n1_ := Aside0.mk (blk_grown (g := gb101) (o := .cells #[.int .u8 a1_0, .int .u8 a1_1, .int .u8 a1_2] 29 (0, 0)) (by (with_reducible repeat (first | refine blk_drewN ?_ _ | refine blk_drew ?_ | refine blk_alloc ?_ _)); exact BK101.out) hg (Kd.R_ne HO_11.out BK101.out (by decide))); have n2_ := Aside0.mk (hb); have n3_ := Aside0.mk (ho); clear HO_10; clear BK101; clear HB; clear HO_11; have HO_10 := n0_; have BK101 := n1_; have HB := n2_; have HO127 := n3_; clear n0_ n1_ n2_ n3_; clear ho hb hg hat; obtain ⟨Ao50, co50, eo50⟩ := Kd.R_slice HO_10.out; subst eo50) | (go_at_call 9; (with_reducible refine (normal_Of.calls kj36 _ _ x10_3 t128 _ ?side1 ?side2 A44.out).mono ?_); (case side1 => repeat (first | exact (Kd.R_reads' HO_10.out).2.2 | (with_reducible refine Kd.C_alloc ?_ _) | (with_reducible refine Kd.C_drewN ?_ _) | (with_reducible refine Kd.C_drew ?_))); (case side2 => exact (Kd.R_reads' HO_10.out).2.1); rintro e w51 ⟨v129, rfl, ho0, hb⟩; have n0_ := Aside0.mk (Kd.R_elder' (by (with_reducible repeat (first | apply Kd.R_alloc | apply Kd.R_drewN | apply Kd.R_drew)); exact HO_10.out) (Kd.R_base ho0) hb); have n1_ := Aside0.mk (Kd.R_elder' (by (with_reducible repeat (first | apply Kd.R_alloc | apply Kd.R_drewN | apply Kd.R_drew)); exact HO127.out) (Kd.R_base ho0) hb); have n2_ := Aside0.mk (Kd.R_lower (Kd.R_new' (Kd.R_new' ho0 (Kd.R_lt (by (with_reducible repeat (first | apply Kd.R_alloc | apply Kd.R_drewN | apply Kd.R_drew)); exact HO_10.out))) (Kd.R_lt (by (with_reducible repeat (first | apply Kd.R_alloc | apply Kd.R_drewN | apply Kd.R_drew)); exact HO127.out))) (below_size (by repeat (first | (with_reducible first | exact HB.out | apply below_alloc | apply pw_below_drewN | apply below_drew1 | refine below_set ?_ GE101.out) | exact HB.out)))); have n3_ := Aside0.mk (blk_below (g := gb101) (o := .cells #[.int .u8 a1_0, .int .u8 a1_1, .int .u8 a1_2] 29 (0, 0)) (by (with_reducible repeat (first | refine blk_drewN ?_ _ | refine blk_drew ?_ | refine blk_alloc ?_ _)); exact BK101.out) hb); have n4_ := Aside0.mk (below_step (by repeat (first | (with_reducible first | exact HB.out | apply below_alloc | apply pw_below_drewN | apply below_drew1 | refine below_set ?_ GE101.out) | exact HB.out)) hb); clear HO_10; clear HO127; clear BK101; clear HB; have HO_10 := n0_; have HO127 := n1_; have HO130 := n2_; have BK101 := n3_; have HB := n4_; clear n0_ n1_ n2_ n3_ n4_; (try clear hb); (try clear hb2); (try clear hk); (try clear hi); (try clear ho0); obtain ⟨Ao52, co52, eo52⟩ := Kd.R_slice HO130.out; subst eo52; obtain ⟨Ao53, co53, eo53⟩ := Kd.R_slice HO127.out; subst eo53) | (go_at_call 10; (with_reducible refine (epitomeref04_Same.calls kj36 _ _ t128 _ _ y125 true _ ?side1 ?side2 ?side3 ?side4 A45.out).mono ?_); (case side1 => repeat (first | exact (Kd.R_reads' HO130.out).2.2 | (with_reducible refine Kd.C_alloc ?_ _) | (with_reducible refine Kd.C_drewN ?_ _) | (with_reducible refine Kd.C_drew ?_))); (case side2 => exact (Kd.R_reads' HO130.out).2.1); (case side3 => repeat (first | exact (Kd.R_reads' HO127.out).2.2 | (with_reducible refine Kd.C_alloc ?_ _) | (with_reducible refine Kd.C_drewN ?_ _) | (with_reducible refine Kd.C_drew ?_))); (case side4 => exact (Kd.R_reads' HO127.out).2.1); rintro e w' ⟨rfl, ⟨nd, rfl⟩⟩) | (go_at_call 12; (with_reducible refine (normal_Is.calls kj36 _ _ y125 t132 _ ?side1 ?side2 A47.out).mono ?_); (case side1 => repeat (first | exact (Kd.R_reads' HO127.out).2.2 | (with_reducible refine Kd.C_alloc ?_ _) | (with_reducible refine Kd.C_drewN ?_ _) | (with_reducible refine Kd.C_drew ?_))); (case side2 => exact (Kd.R_reads' HO127.out).2.1); rintro e w54 ⟨rfl, hb⟩; have n0_ := Aside0.mk (Kd.R_below (by (with_reducible repeat (first | apply Kd.R_alloc | apply Kd.R_drewN | apply Kd.R_drew)); exact HO_10.out) hb); have n1_ := Aside0.mk (Kd.R_below (by (with_reducible repeat (first | apply Kd.R_alloc | apply Kd.R_drewN | apply Kd.R_drew)); exact HO127.out) hb); have n2_ := Aside0.mk (Kd.R_below (by (with_reducible repeat (first | apply Kd.R_alloc | apply Kd.R_drewN | apply Kd.R_drew)); exact HO130.out) hb); have n3_ := Aside0.mk (blk_below (g := gb101) (o := .cells #[.int .u8 a1_0, .int .u8 a1_1, .int .u8 a1_2] 29 (0, 0)) (by (with_reducible repeat (first | refine blk_drewN ?_ _ | refine blk_drew ?_ | refine blk_alloc ?_ _)); exact BK101.out) hb); have n4_ := Aside0.mk (below_step (by repeat (first | (with_reducible first | exact HB.out | apply below_alloc | apply pw_below_drewN | apply below_drew1 | refine below_set ?_ GE101.out) | exact HB.out)) hb); clear HO_10; clear HO127; clear HO130; clear BK101; clear HB; have HO_10 := n0_; have HO127 := n1_; have HO130 := n2_; have BK101 := n3_; have HB := n4_; clear n0_ n1_ n2_ n3_ n4_; (try clear hb); (try clear hb2); (try clear hk); (try clear hi)))
                                        go_ret
                                        exact ⟨by first | rfl | (simp [errW_none, errW_some] <;> rfl) | (simp only [← hji5]; first | rfl | (simp [errW_none, errW_some] <;> rfl)) | (simp [*, errW_none, errW_some] <;> rfl), by repeat (first | (with_reducible first | exact HB.out | apply below_alloc | apply pw_below_drewN | apply below_drew1 | refine below_set ?_ GE101.out) | exact HB.out)⟩
                                      · replace c46 := Bool.eq_false_iff.mpr c46
                                        subst c46
                                        have H1 : (some false) = some r := by rw [if_neg (show ¬ (false = true) by decide)] at H; exact H
                                        clear H
                                        have H := H1
                                        clear H1
                                        obtain rfl := Option.some.inj H
                                        have hcz55_0 : wc.cell? ⟨gb101, 0, none⟩ = some (.int .u8 a1_0) := (blk_cell BK101.out 0).trans rfl
                                        have hcz55_1 : wc.cell? ⟨gb101, 1, none⟩ = some (.int .u8 a1_1) := (blk_cell BK101.out 1).trans rfl
                                        have hcz55_2 : wc.cell? ⟨gb101, 2, none⟩ = some (.int .u8 a1_2) := (blk_cell BK101.out 2).trans rfl
                                        have hfz55_0 := blk_frozen BK101.out 0
                                        have hfz55_1 := blk_frozen BK101.out 1
                                        have hfz55_2 := blk_frozen BK101.out 2
                                        go_wp2_with (first | ((with_reducible refine gate_builtin (b := .append) (xs := #[.tmp 101, .tmp 109]) rfl ?_); at_builtin; refine Kd.R_append k31 (w0 := w) w.heap.size rfl (.tmp 101) (.tmp 109) 22 31 (.agg #[(.int .i64 0), (.int .i64 0), (.string ⟨#[]⟩)]) 32 rfl Try.underlying22 info31 rfl (by decide) (by omega) u11 x11_36 (⟨3, wrap64 ((wrap64 (Int.tmod a1_2 8)) * (wrap64 (Int.tmod a2 8))), (⟨#[]⟩ : ByteArray)⟩ : S31) [.int .i64 3, .int .i64 (wrap64 ((wrap64 (Int.tmod a1_2 8)) * (wrap64 (Int.tmod a2 8)))), .string (⟨#[]⟩ : ByteArray)] (fun k_ => some k_ ≠ (u10 : Value).ownBlock) (fun _ => False) rfl rfl ?aP (fun _ hk => hk.elim) ?aF ?aO ?aB ?aS ?aL ?_; (case aP => exact k31_mkM _ _ _ (⟨3, wrap64 ((wrap64 (Int.tmod a1_2 8)) * (wrap64 (Int.tmod a2 8))), (⟨#[]⟩ : ByteArray)⟩ : S31)); (case aB => exact (by repeat (first | (with_reducible first | exact HB.out | apply below_alloc | apply pw_below_drewN | apply below_drew1 | refine below_set ?_ GE101.out) | exact HB.out))); (case aF => exact (fun k_ hk => Kd.fresh' (Kd.R_lt (by (with_reducible repeat (first | apply Kd.R_alloc | apply Kd.R_drewN | apply Kd.R_drew)); exact HO_10.out)) k_ hk)); (case aO => exact (by (with_reducible repeat (first | apply Kd.R_alloc | apply Kd.R_drewN | apply Kd.R_drew)); exact HO_11.out)); (case aS => exact (below_size (by repeat (first | (with_reducible first | exact HB.out | apply below_alloc | apply pw_below_drewN | apply below_drew1 | refine below_set ?_ GE101.out) | exact HB.out)))); (case aL => have := LMc42.out; omega); intro v126 w56 ho hb hg hat; rw [← Ny125.out] at ho; have n0_ := Aside0.mk (Kd.R_after (ok := (fun _ => True)) (by (with_reducible repeat (first | apply Kd.R_alloc | apply Kd.R_drewN | apply Kd.R_drew)); exact Kd.R_mono HO_10.out (fun _ hk => ⟨trivial, hk⟩)) hg hat); have n1_ := Aside0.mk (blk_grown (g := gb101) (o := .cells #[.int .u8 a1_0, .int .u8 a1_1, .int .u8 a1_2] 29 (0, 0)) (by (with_reducible repeat (first | refine blk_drewN ?_ _ | refine blk_drew ?_ | refine blk_alloc ?_ _)); exact BK101.out) hg (Kd.R_ne HO_11.out BK101.out (by decide))); have n2_ := Aside0.mk (hb); have n3_ := Aside0.mk (ho); clear HO_10; clear BK101; clear HB; clear HO_11; have HO_10 := n0_; have BK101 := n1_; have HB := n2_; have HO127 := n3_; clear n0_ n1_ n2_ n3_; clear ho hb hg hat; obtain ⟨Ao57, co57, eo57⟩ := Kd.R_slice HO_10.out; subst eo57) | (go_at_call 9; (with_reducible refine (normal_Of.calls kj36 _ _ x10_3 t128 _ ?side1 ?side2 A44.out).mono ?_); (case side1 => repeat (first | exact (Kd.R_reads' HO_10.out).2.2 | (with_reducible refine Kd.C_alloc ?_ _) | (with_reducible refine Kd.C_drewN ?_ _) | (with_reducible refine Kd.C_drew ?_))); (case side2 => exact (Kd.R_reads' HO_10.out).2.1); rintro e w58 ⟨v129, rfl, ho0, hb⟩; have n0_ := Aside0.mk (Kd.R_elder' (by (with_reducible repeat (first | apply Kd.R_alloc | apply Kd.R_drewN | apply Kd.R_drew)); exact HO_10.out) (Kd.R_base ho0) hb); have n1_ := Aside0.mk (Kd.R_elder' (by (with_reducible repeat (first | apply Kd.R_alloc | apply Kd.R_drewN | apply Kd.R_drew)); exact HO127.out) (Kd.R_base ho0) hb); have n2_ := Aside0.mk (Kd.R_lower (Kd.R_new' (Kd.R_new' ho0 (Kd.R_lt (by (with_reducible repeat (first | apply Kd.R_alloc | apply Kd.R_drewN | apply Kd.R_drew)); exact HO_10.out))) (Kd.R_lt (by (with_reducible repeat (first | apply Kd.R_alloc | apply Kd.R_drewN | apply Kd.R_drew)); exact HO127.out))) (below_size (by repeat (first | (with_reducible first | exact HB.out | apply below_alloc | apply pw_below_drewN | apply below_drew1 | refine below_set ?_ GE101.out) | exact HB.out)))); have n3_ := Aside0.mk (blk_below (g := gb101) (o := .cells #[.int .u8 a1_0, .int .u8 a1_1, .int .u8 a1_2] 29 (0, 0)) (by (with_reducible repeat (first | refine blk_drewN ?_ _ | refine blk_drew ?_ | refine blk_alloc ?_ _)); exact BK101.out) hb); have n4_ := Aside0.mk (below_step (by repeat (first | (with_reducible first | exact HB.out | apply below_alloc | apply pw_below_drewN | apply below_drew1 | refine below_set ?_ GE101.out) | exact HB.out)) hb); clear HO_10; clear HO127; clear BK101; clear HB; have HO_10 := n0_; have HO127 := n1_; have HO130 := n2_; have BK101 := n3_; have HB := n4_; clear n0_ n1_ n2_ n3_ n4_; (try clear hb); (try clear hb2); (try clear hk); (try clear hi); (try clear ho0); obtain ⟨Ao59, co59, eo59⟩ := Kd.R_slice HO130.out; subst eo59; obtain ⟨Ao60, co60, eo60⟩ := Kd.R_slice HO127.out; subst eo60) | (go_at_call 10; (with_reducible refine (epitomeref04_Same.calls kj36 _ _ t128 _ _ y125 false _ ?side1 ?side2 ?side3 ?side4 A45.out).mono ?_); (case side1 => repeat (first | exact (Kd.R_reads' HO130.out).2.2 | (with_reducible refine Kd.C_alloc ?_ _) | (with_reducible refine Kd.C_drewN ?_ _) | (with_reducible refine Kd.C_drew ?_))); (case side2 => exact (Kd.R_reads' HO130.out).2.1); (case side3 => repeat (first | exact (Kd.R_reads' HO127.out).2.2 | (with_reducible refine Kd.C_alloc ?_ _) | (with_reducible refine Kd.C_drewN ?_ _) | (with_reducible refine Kd.C_drew ?_))); (case side4 => exact (Kd.R_reads' HO127.out).2.1); rintro e w' ⟨rfl, ⟨nd, rfl⟩⟩))
                                        go_ret
                                        exact ⟨by first | rfl | (simp [errW_none, errW_some] <;> rfl) | (simp only [← hji5]; first | rfl | (simp [errW_none, errW_some] <;> rfl)) | (simp [*, errW_none, errW_some] <;> rfl), by repeat (first | (with_reducible first | exact HB.out | apply below_alloc | apply pw_below_drewN | apply below_drew1 | refine below_set ?_ GE101.out) | exact HB.out)⟩
                                    · replace c43 := Bool.eq_false_iff.mpr c43
                                      subst c43
                                      have H1 : (some false) = some r := by rw [if_neg (show ¬ (false = true) by decide)] at H; exact H
                                      clear H
                                      have H := H1
                                      clear H1
                                      obtain rfl := Option.some.inj H
                                      have hcz61_0 : wc.cell? ⟨gb101, 0, none⟩ = some (.int .u8 a1_0) := (blk_cell BK101.out 0).trans rfl
                                      have hcz61_1 : wc.cell? ⟨gb101, 1, none⟩ = some (.int .u8 a1_1) := (blk_cell BK101.out 1).trans rfl
                                      have hcz61_2 : wc.cell? ⟨gb101, 2, none⟩ = some (.int .u8 a1_2) := (blk_cell BK101.out 2).trans rfl
                                      have hfz61_0 := blk_frozen BK101.out 0
                                      have hfz61_1 := blk_frozen BK101.out 1
                                      have hfz61_2 := blk_frozen BK101.out 2
                                      go_wp2_with (first | ((with_reducible refine gate_builtin (b := .append) (xs := #[.tmp 101, .tmp 109]) rfl ?_); at_builtin; refine Kd.R_append k31 (w0 := w) w.heap.size rfl (.tmp 101) (.tmp 109) 22 31 (.agg #[(.int .i64 0), (.int .i64 0), (.string ⟨#[]⟩)]) 32 rfl Try.underlying22 info31 rfl (by decide) (by omega) u11 x11_36 (⟨3, wrap64 ((wrap64 (Int.tmod a1_2 8)) * (wrap64 (Int.tmod a2 8))), (⟨#[]⟩ : ByteArray)⟩ : S31) [.int .i64 3, .int .i64 (wrap64 ((wrap64 (Int.tmod a1_2 8)) * (wrap64 (Int.tmod a2 8)))), .string (⟨#[]⟩ : ByteArray)] (fun k_ => some k_ ≠ (u10 : Value).ownBlock) (fun _ => False) rfl rfl ?aP (fun _ hk => hk.elim) ?aF ?aO ?aB ?aS ?aL ?_; (case aP => exact k31_mkM _ _ _ (⟨3, wrap64 ((wrap64 (Int.tmod a1_2 8)) * (wrap64 (Int.tmod a2 8))), (⟨#[]⟩ : ByteArray)⟩ : S31)); (case aB => exact (by repeat (first | (with_reducible first | exact HB.out | apply below_alloc | apply pw_below_drewN | apply below_drew1 | refine below_set ?_ GE101.out) | exact HB.out))); (case aF => exact (fun k_ hk => Kd.fresh' (Kd.R_lt (by (with_reducible repeat (first | apply Kd.R_alloc | apply Kd.R_drewN | apply Kd.R_drew)); exact HO_10.out)) k_ hk)); (case aO => exact (by (with_reducible repeat (first | apply Kd.R_alloc | apply Kd.R_drewN | apply Kd.R_drew)); exact HO_11.out)); (case aS => exact (below_size (by repeat (first | (with_reducible first | exact HB.out | apply below_alloc | apply pw_below_drewN | apply below_drew1 | refine below_set ?_ GE101.out) | exact HB.out)))); (case aL => have := LMc42.out; omega); intro v126 w62 ho hb hg hat; rw [← Ny125.out] at ho; have n0_ := Aside0.mk (Kd.R_after (ok := (fun _ => True)) (by (with_reducible repeat (first | apply Kd.R_alloc | apply Kd.R_drewN | apply Kd.R_drew)); exact Kd.R_mono HO_10.out (fun _ hk => ⟨trivial, hk⟩)) hg hat); have n1_ := Aside0.mk (blk_grown (g := gb101) (o := .cells #[.int .u8 a1_0, .int .u8 a1_1, .int .u8 a1_2] 29 (0, 0)) (by (with_reducible repeat (first | refine blk_drewN ?_ _ | refine blk_drew ?_ | refine blk_alloc ?_ _)); exact BK101.out) hg (Kd.R_ne HO_11.out BK101.out (by decide))); have n2_ := Aside0.mk (hb); have n3_ := Aside0.mk (ho); clear HO_10; clear BK101; clear HB; clear HO_11; have HO_10 := n0_; have BK101 := n1_; have HB := n2_; have HO127 := n3_; clear n0_ n1_ n2_ n3_; clear ho hb hg hat))
                                      go_ret
                                      exact ⟨by first | rfl | (simp [errW_none, errW_some] <;> rfl) | (simp only [← hji5]; first | rfl | (simp [errW_none, errW_some] <;> rfl)) | (simp [*, errW_none, errW_some] <;> rfl), by repeat (first | (with_reducible first | exact HB.out | apply below_alloc | apply pw_below_drewN | apply below_drew1 | refine below_set ?_ GE101.out) | exact HB.out)⟩
                                  · rw [if_neg c42] at H
                                    exact absurd H (by simp)
                                · rw [if_neg c41] at H
                                  have c41b0 : decide (0 < (wrap64 ((wrap64 (Int.tmod a1_2 8)) * (wrap64 (Int.tmod a2 8))))) = false := decide_eq_false c41
                                  clear c41
                                  by_cases c63 : t102 = true
                                  · subst c63
                                    have H1 : ((normal_Of.f kj36 x10_3).bind fun t133 => ((epitomeref04_Same.f kj36 t133 x11_36).bind fun t136 => (if t136 = true then ((normal_Is.f kj36 x11_36).bind fun t137 => (some t137)) else (some false)))) = some r := by rw [if_pos rfl] at H; exact H
                                    clear H
                                    have H := H1
                                    clear H1
                                    replace H := Option.bind_eq_some_iff.mp H
                                    obtain ⟨t133, A640, H⟩ := H
                                    replace H : ((epitomeref04_Same.f kj36 t133 x11_36).bind fun t136 => (if t136 = true then ((normal_Is.f kj36 x11_36).bind fun t137 => (some t137)) else (some false))) = some r := H
                                    have A64 := Aside0.mk A640
                                    clear A640
                                    replace H := Option.bind_eq_some_iff.mp H
                                    obtain ⟨t136, A650, H⟩ := H
                                    replace H : (if t136 = true then ((normal_Is.f kj36 x11_36).bind fun t137 => (some t137)) else (some false)) = some r := H
                                    have A65 := Aside0.mk A650
                                    clear A650
                                    by_cases c66 : t136 = true
                                    · subst c66
                                      have H1 : ((normal_Is.f kj36 x11_36).bind fun t137 => (some t137)) = some r := by rw [if_pos rfl] at H; exact H
                                      clear H
                                      have H := H1
                                      clear H1
                                      replace H := Option.bind_eq_some_iff.mp H
                                      obtain ⟨t137, A670, H⟩ := H
                                      replace H : (some t137) = some r := H
                                      have A67 := Aside0.mk A670
                                      clear A670
                                      obtain rfl := Option.some.inj H
                                      have hcz68_0 : wc.cell? ⟨gb101, 0, none⟩ = some (.int .u8 a1_0) := (blk_cell BK101.out 0).trans rfl
                                      have hcz68_1 : wc.cell? ⟨gb101, 1, none⟩ = some (.int .u8 a1_1) := (blk_cell BK101.out 1).trans rfl
                                      have hcz68_2 : wc.cell? ⟨gb101, 2, none⟩ = some (.int .u8 a1_2) := (blk_cell BK101.out 2).trans rfl
                                      have hfz68_0 := blk_frozen BK101.out 0
                                      have hfz68_1 := blk_frozen BK101.out 1
                                      have hfz68_2 := blk_frozen BK101.out 2
                                      obtain ⟨Ao69, co69, eo69⟩ := Kd.R_slice HO_10.out
                                      subst eo69
                                      go_wp2_with (first | (go_at_call 9; (with_reducible refine (normal_Of.calls kj36 _ _ x10_3 t133 _ ?side1 ?side2 A64.out).mono ?_); (case side1 => repeat (first | exact (Kd.R_reads' HO_10.out).2.2 | (with_reducible refine Kd.C_alloc ?_ _) | (with_reducible refine Kd.C_drewN ?_ _) | (with_reducible refine Kd.C_drew ?_))); (case side2 => exact (Kd.R_reads' HO_10.out).2.1); rintro e w70 ⟨v134, rfl, ho0, hb⟩; have n0_ := Aside0.mk (Kd.R_elder' (by (with_reducible repeat (first | apply Kd.R_alloc | apply Kd.R_drewN | apply Kd.R_drew)); exact HO_10.out) (Kd.R_base ho0) hb); have n1_ := Aside0.mk (Kd.R_elder' (by (with_reducible repeat (first | apply Kd.R_alloc | apply Kd.R_drewN | apply Kd.R_drew)); exact HO_11.out) (Kd.R_base ho0) hb); have n2_ := Aside0.mk (Kd.R_lower (Kd.R_new' (Kd.R_new' ho0 (Kd.R_lt (by (with_reducible repeat (first | apply Kd.R_alloc | apply Kd.R_drewN | apply Kd.R_drew)); exact HO_10.out))) (Kd.R_lt (by (with_reducible repeat (first | apply Kd.R_alloc | apply Kd.R_drewN | apply Kd.R_drew)); exact HO_11.out))) (below_size (by repeat (first | (with_reducible first | exact HB.out | apply below_alloc | apply pw_below_drewN | apply below_drew1 | refine below_set ?_ GE101.out) | exact HB.out)))); have n3_ := Aside0.mk (blk_below (g := gb101) (o := .cells #[.int .u8 a1_0, .int .u8 a1_1, .int .u8 a1_2] 29 (0, 0)) (by (with_reducible repeat (first | refine blk_drewN ?_ _ | refine blk_drew ?_ | refine blk_alloc ?_ _)); exact BK101.out) hb); have n4_ := Aside0.mk (below_step (by repeat (first | (with_reducible first | exact HB.out | apply below_alloc | apply pw_below_drewN | apply below_drew1 | refine below_set ?_ GE101.out) | exact HB.out)) hb); clear HO_10; clear HO_11; clear BK101; clear HB; have HO_10 := n0_; have HO_11 := n1_; have HO135 := n2_; have BK101 := n3_; have HB := n4_; clear n0_ n1_ n2_ n3_ n4_; (try clear hb); (try clear hb2); (try clear hk); (try clear hi); (try clear ho0); obtain ⟨Ao71, co71, eo71⟩ := Kd.R_slice HO135.out; subst eo71; obtain ⟨Ao72, co72, eo72⟩ := Kd.R_slice HO_11.out; subst eo72) | (go_at_call 10; (with_reducible refine (epitomeref04_Same.calls kj36 _ _ t133 _ _ x11_36 true _ ?side1 ?side2 ?side3 ?side4 A65.out).mono ?_); (case side1 => repeat (first | exact (Kd.R_reads' HO135.out).2.2 | (with_reducible refine Kd.C_alloc ?_ _) | (with_reducible refine Kd.C_drewN ?_ _) | (with_reducible refine Kd.C_drew ?_))); (case side2 => exact (Kd.R_reads' HO135.out).2.1); (case side3 => repeat (first | exact (Kd.R_reads' HO_11.out).2.2 | (with_reducible refine Kd.C_alloc ?_ _) | (with_reducible refine Kd.C_drewN ?_ _) | (with_reducible refine Kd.C_drew ?_))); (case side4 => exact (Kd.R_reads' HO_11.out).2.1); rintro e w' ⟨rfl, ⟨nd, rfl⟩⟩) | (go_at_call 12; (with_reducible refine (normal_Is.calls kj36 _ _ x11_36 t137 _ ?side1 ?side2 A67.out).mono ?_); (case side1 => repeat (first | exact (Kd.R_reads' HO_11.out).2.2 | (with_reducible refine Kd.C_alloc ?_ _) | (with_reducible refine Kd.C_drewN ?_ _) | (with_reducible refine Kd.C_drew ?_))); (case side2 => exact (Kd.R_reads' HO_11.out).2.1); rintro e w73 ⟨rfl, hb⟩; have n0_ := Aside0.mk (Kd.R_below (by (with_reducible repeat (first | apply Kd.R_alloc | apply Kd.R_drewN | apply Kd.R_drew)); exact HO_10.out) hb); have n1_ := Aside0.mk (Kd.R_below (by (with_reducible repeat (first | apply Kd.R_alloc | apply Kd.R_drewN | apply Kd.R_drew)); exact HO_11.out) hb); have n2_ := Aside0.mk (Kd.R_below (by (with_reducible repeat (first | apply Kd.R_alloc | apply Kd.R_drewN | apply Kd.R_drew)); exact HO135.out) hb); have n3_ := Aside0.mk (blk_below (g := gb101) (o := .cells #[.int .u8 a1_0, .int .u8 a1_1, .int .u8 a1_2] 29 (0, 0)) (by (with_reducible repeat (first | refine blk_drewN ?_ _ | refine blk_drew ?_ | refine blk_alloc ?_ _)); exact BK101.out) hb); have n4_ := Aside0.mk (below_step (by repeat (first | (with_reducible first | exact HB.out | apply below_alloc | apply pw_below_drewN | apply below_drew1 | refine below_set ?_ GE101.out) | exact HB.out)) hb); clear HO_10; clear HO_11; clear HO135; clear BK101; clear HB; have HO_10 := n0_; have HO_11 := n1_; have HO135 := n2_; have BK101 := n3_; have HB := n4_; clear n0_ n1_ n2_ n3_ n4_; (try clear hb); (try clear hb2); (try clear hk); (try clear hi)))
                                      go_ret
                                      exact ⟨by first | rfl | (simp [errW_none, errW_some] <;> rfl) | (simp only [← hji5]; first | rfl | (simp [errW_none, errW_some] <;> rfl)) | (simp [*, errW_none, errW_some] <;> rfl), by repeat (first | (with_reducible first | exact HB.out | apply below_alloc | apply pw_below_drewN | apply below_drew1 | refine below_set ?_ GE101.out) | exact HB.out)⟩
                                    · replace c66 := Bool.eq_false_iff.mpr c66
                                      subst c66
                                      have H1 : (some false) = some r := by rw [if_neg (show ¬ (false = true) by decide)] at H; exact H
                                      clear H
                                      have H := H1
                                      clear H1
                                      obtain rfl := Option.some.inj H
                                      have hcz74_0 : wc.cell? ⟨gb101, 0, none⟩ = some (.int .u8 a1_0) := (blk_cell BK101.out 0).trans rfl
                                      have hcz74_1 : wc.cell? ⟨gb101, 1, none⟩ = some (.int .u8 a1_1) := (blk_cell BK101.out 1).trans rfl
                                      have hcz74_2 : wc.cell? ⟨gb101, 2, none⟩ = some (.int .u8 a1_2) := (blk_cell BK101.out 2).trans rfl
                                      have hfz74_0 := blk_frozen BK101.out 0
                                      have hfz74_1 := blk_frozen BK101.out 1
                                      have hfz74_2 := blk_frozen BK101.out 2
                                      obtain ⟨Ao75, co75, eo75⟩ := Kd.R_slice HO_10.out
                                      subst eo75
                                      go_wp2_with (first | (go_at_call 9; (with_reducible refine (normal_Of.calls kj36 _ _ x10_3 t133 _ ?side1 ?side2 A64.out).mono ?_); (case side1 => repeat (first | exact (Kd.R_reads' HO_10.out).2.2 | (with_reducible refine Kd.C_alloc ?_ _) | (with_reducible refine Kd.C_drewN ?_ _) | (with_reducible refine Kd.C_drew ?_))); (case side2 => exact (Kd.R_reads' HO_10.out).2.1); rintro e w76 ⟨v134, rfl, ho0, hb⟩; have n0_ := Aside0.mk (Kd.R_elder' (by (with_reducible repeat (first | apply Kd.R_alloc | apply Kd.R_drewN | apply Kd.R_drew)); exact HO_10.out) (Kd.R_base ho0) hb); have n1_ := Aside0.mk (Kd.R_elder' (by (with_reducible repeat (first | apply Kd.R_alloc | apply Kd.R_drewN | apply Kd.R_drew)); exact HO_11.out) (Kd.R_base ho0) hb); have n2_ := Aside0.mk (Kd.R_lower (Kd.R_new' (Kd.R_new' ho0 (Kd.R_lt (by (with_reducible repeat (first | apply Kd.R_alloc | apply Kd.R_drewN | apply Kd.R_drew)); exact HO_10.out))) (Kd.R_lt (by (with_reducible repeat (first | apply Kd.R_alloc | apply Kd.R_drewN | apply Kd.R_drew)); exact HO_11.out))) (below_size (by repeat (first | (with_reducible first | exact HB.out | apply below_alloc | apply pw_below_drewN | apply below_drew1 | refine below_set ?_ GE101.out) | exact HB.out)))); have n3_ := Aside0.mk (blk_below (g := gb101) (o := .cells #[.int .u8 a1_0, .int .u8 a1_1, .int .u8 a1_2] 29 (0, 0)) (by (with_reducible repeat (first | refine blk_drewN ?_ _ | refine blk_drew ?_ | refine blk_alloc ?_ _)); exact BK101.out) hb); have n4_ := Aside0.mk (below_step (by repeat (first | (with_reducible first | exact HB.out | apply below_alloc | apply pw_below_drewN | apply below_drew1 | refine below_set ?_ GE101.out) | exact HB.out)) hb); clear HO_10; clear HO_11; clear BK101; clear HB; have HO_10 := n0_; have HO_11 := n1_; have HO135 := n2_; have BK101 := n3_; have HB := n4_; clear n0_ n1_ n2_ n3_ n4_; (try clear hb); (try clear hb2); (try clear hk); (try clear hi); (try clear ho0); obtain ⟨Ao77, co77, eo77⟩ := Kd.R_slice HO135.out; subst eo77; obtain ⟨Ao78, co78, eo78⟩ := Kd.R_slice HO_11.out; subst eo78) | (go_at_call 10; (with_reducible refine (epitomeref04_Same.calls kj36 _ _ t133 _ _ x11_36 false _ ?side1 ?side2 ?side3 ?side4 A65.out).mono ?_); (case side1 => repeat (first | exact (Kd.R_reads' HO135.out).2.2 | (with_reducible refine Kd.C_alloc ?_ _) | (with_reducible refine Kd.C_drewN ?_ _) | (with_reducible refine Kd.C_drew ?_))); (case side2 => exact (Kd.R_reads' HO135.out).2.1); (case side3 => repeat (first | exact (Kd.R_reads' HO_11.out).2.2 | (with_reducible refine Kd.C_alloc ?_ _) | (with_reducible refine Kd.C_drewN ?_ _) | (with_reducible refine Kd.C_drew ?_))); (case side4 => exact (Kd.R_reads' HO_11.out).2.1); rintro e w' ⟨rfl, ⟨nd, rfl⟩⟩))
                                      go_ret
                                      exact ⟨by first | rfl | (simp [errW_none, errW_some] <;> rfl) | (simp only [← hji5]; first | rfl | (simp [errW_none, errW_some] <;> rfl)) | (simp [*, errW_none, errW_some] <;> rfl), by repeat (first | (with_reducible first | exact HB.out | apply below_alloc | apply pw_below_drewN | apply below_drew1 | refine below_set ?_ GE101.out) | exact HB.out)⟩
                                  · replace c63 := Bool.eq_false_iff.mpr c63
                                    subst c63
                                    have H1 : (some false) = some r := by rw [if_neg (show ¬ (false = true) by decide)] at H; exact H
                                    clear H
                                    have H := H1
                                    clear H1
                                    obtain rfl := Option.some.inj H
                                    have hcz79_0 : wc.cell? ⟨gb101, 0, none⟩ = some (.int .u8 a1_0) := (blk_cell BK101.out 0).trans rfl
                                    have hcz79_1 : wc.cell? ⟨gb101, 1, none⟩ = some (.int .u8 a1_1) := (blk_cell BK101.out 1).trans rfl
                                    have hcz79_2 : wc.cell? ⟨gb101, 2, none⟩ = some (.int .u8 a1_2) := (blk_cell BK101.out 2).trans rfl
                                    have hfz79_0 := blk_frozen BK101.out 0
                                    have hfz79_1 := blk_frozen BK101.out 1
                                    have hfz79_2 := blk_frozen BK101.out 2
                                    go_wp2
                                    go_ret
                                    exact ⟨by first | rfl | (simp [errW_none, errW_some] <;> rfl) | (simp only [← hji5]; first | rfl | (simp [errW_none, errW_some] <;> rfl)) | (simp [*, errW_none, errW_some] <;> rfl), by repeat (first | (with_reducible first | exact HB.out | apply below_alloc | apply pw_below_drewN | apply below_drew1 | refine below_set ?_ GE101.out) | exact HB.out)⟩
    · rw [if_neg c7] at H
      exact absurd H (by simp)
  · rw [if_neg c6] at H
    exact absurd H (by simp)

end Go.Proofs.Ytidmodnfodifgaa.F
