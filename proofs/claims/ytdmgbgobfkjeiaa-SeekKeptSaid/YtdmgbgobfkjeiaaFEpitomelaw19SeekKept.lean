-- Written by drive.py (this session's) with the kit's printer, beside functions proved by hand. Not trusted: Lean checks it.
import Derived.Test.YtdmgbgobfkjeiaaBase
import Derived.Test.YtdmgbgobfkjeiaaFEpitomelaw19Shown
import Derived.Test.YtdmgbgobfkjeiaaHKeep
import Derived.Test.YtdmgbgobfkjeiaaHSeek
namespace Go.Proofs.Ytdmgbgobfkjeiaa.F
open Go.RowKit Go.Proofs.YtdmgbgobfkjeiaaW.PrintWords Go.Proofs.YtdmgbgobfkjeiaaW.PrintLast Go.Proofs.YtdmgbgobfkjeiaaW.PrintMore
attribute [local go_sem] max2_int min2_int max_two min_two max_three min_three max_four min_four cell_setCell_isSome
set_option linter.unusedVariables false
set_option linter.unusedSimpArgs false

/-! ### epitomelaw19_SeekKept: function 10 -/
mutual
def epitomelaw19_SeekKept.l0 : Nat → Int → List Int → Int → Bool → List Int → Int → Option (Bool)
  | 0, _, _, _, _, _, _ => none
  | k + 1, x0, x1, x2, x7, x8, x9 => if x9 ≤ (Int.tmod (wrap64 (x0)) 41) then (if x8.length < 17592186044416 then (epitomelaw19_SeekKept.l0 k x0 x1 x2 x7 (x8 ++ [x9]) (wrap64 (x9 + 1))) else (none)) else (if 0 ≤ (mn (x1.length : Int) 30) then (if (mn (x1.length : Int) 30) ≤ (x1.length : Int) then ((some (x1.take ((mn (x1.length : Int) 30) : Int).toNat : List Int)).bind fun y108 => ((keep_Of.f x8 y108 x2).bind fun t112 => (if (t112.length : Int) = 0 then (epitomelaw19_SeekKept.j1 k x7 x8 y108 t112 true) else (epitomelaw19_SeekKept.j1 k x7 x8 y108 t112 (decide ((t112.length : Int) > (x8.length : Int))))))) else (none)) else (none))
def epitomelaw19_SeekKept.j1 : Nat → Bool → List Int → List Int → List Int → Bool → Option (Bool)
  | 0, _, _, _, _, _ => none
  | k + 1, x7, x8, x10, x11, x51 => if x51 = true then (some false) else (epitomelaw19_SeekKept.l1 k x7 x8 x10 x11 (-1))
def epitomelaw19_SeekKept.l1 : Nat → Bool → List Int → List Int → List Int → Int → Option (Bool)
  | 0, _, _, _, _, _ => none
  | k + 1, x7, x8, x10, x11, x12 => if x12 ≤ (x8.length : Int) then ((seek_Find.f x11 x12).bind fun bt115 => (if 0 < (x11.length : Int) then (if x12 = (rd x11 0) then (epitomelaw19_SeekKept.j3 k x7 x8 x10 x11 x12 bt115.1 bt115.2.1 bt115.2.2 true) else (epitomelaw19_SeekKept.j3 k x7 x8 x10 x11 x12 bt115.1 bt115.2.1 bt115.2.2 (x12 == (wrap64 ((x8.length : Int) - 1))))) else (none))) else (some x7)
def epitomelaw19_SeekKept.j3 : Nat → Bool → List Int → List Int → List Int → Int → Int → Int → Int → Bool → Option (Bool)
  | 0, _, _, _, _, _, _, _, _, _ => none
  | k + 1, x7, x8, x10, x11, x12, x13, x14, x15, x16 => epitomelaw19_SeekKept.l2 k x7 x8 x10 x11 x12 x13 x14 x15 x16 0
def epitomelaw19_SeekKept.l2 : Nat → Bool → List Int → List Int → List Int → Int → Int → Int → Int → Bool → Int → Option (Bool)
  | 0, _, _, _, _, _, _, _, _, _, _ => none
  | k + 1, x7, x8, x10, x11, x12, x13, x14, x15, x16, x17 => if x17 < (x10.length : Int) then (if x16 = true then (epitomelaw19_SeekKept.l2 k x7 x8 x10 x11 x12 x13 x14 x15 true (wrap64 (x17 + 1))) else (if 0 ≤ x17 then (if (rd x10 x17) = x12 then (if 0 < (x11.length : Int) then (epitomelaw19_SeekKept.l2 k x7 x8 x10 x11 x12 x13 x14 x15 (decide (x12 > (rd x11 0))) (wrap64 (x17 + 1))) else (none)) else (epitomelaw19_SeekKept.l2 k x7 x8 x10 x11 x12 x13 x14 x15 false (wrap64 (x17 + 1)))) else (none))) else (if x16 = true then (epitomelaw19_SeekKept.j5 k x7 x8 x10 x11 x12 x13 x14 x15 0) else (epitomelaw19_SeekKept.j5 k x7 x8 x10 x11 x12 x13 x14 x15 10))
def epitomelaw19_SeekKept.j5 : Nat → Bool → List Int → List Int → List Int → Int → Int → Int → Int → Int → Option (Bool)
  | 0, _, _, _, _, _, _, _, _, _ => none
  | k + 1, x7, x8, x10, x11, x12, x13, x14, x15, x18 => if x12 ≥ (x8.length : Int) then (epitomelaw19_SeekKept.j6 k x7 x8 x10 x11 x12 x13 x14 x15 6) else (if 0 < (x11.length : Int) then (if x12 < (rd x11 0) then (epitomelaw19_SeekKept.j6 k x7 x8 x10 x11 x12 x13 x14 x15 11) else (epitomelaw19_SeekKept.j6 k x7 x8 x10 x11 x12 x13 x14 x15 x18)) else (none))
def epitomelaw19_SeekKept.j6 : Nat → Bool → List Int → List Int → List Int → Int → Int → Int → Int → Int → Option (Bool)
  | 0, _, _, _, _, _, _, _, _, _ => none
  | k + 1, x7, x8, x10, x11, x12, x13, x14, x15, x18 => if x15 = x18 then (if x18 = 0 then (epitomelaw19_SeekKept.j7 k x7 x8 x10 x11 x12 x13 x14 true) else (epitomelaw19_SeekKept.j7 k x7 x8 x10 x11 x12 x13 x14 (x18 == 10))) else (some false)
def epitomelaw19_SeekKept.j7 : Nat → Bool → List Int → List Int → List Int → Int → Int → Int → Bool → Option (Bool)
  | 0, _, _, _, _, _, _, _, _ => none
  | k + 1, x7, x8, x10, x11, x12, x13, x14, x19 => if x19 = true then (if x13 < 0 then (epitomelaw19_SeekKept.j8 k x7 x8 x10 x11 x12 x13 x14 x19 true) else (if x13 ≥ (x11.length : Int) then (epitomelaw19_SeekKept.j8 k x7 x8 x10 x11 x12 x13 x14 x19 true) else (if 0 ≤ x13 then (if x13 < (x11.length : Int) then (if (rd x11 x13) = x14 then (if x14 > x12 then (epitomelaw19_SeekKept.j8 k x7 x8 x10 x11 x12 x13 x14 x19 true) else (if (wrap64 (x13 + 1)) < (x11.length : Int) then (if 0 ≤ (wrap64 (x13 + 1)) then (epitomelaw19_SeekKept.j8 k x7 x8 x10 x11 x12 x13 x14 x19 (decide ((rd x11 (wrap64 (x13 + 1))) ≤ x12))) else (none)) else (epitomelaw19_SeekKept.j8 k x7 x8 x10 x11 x12 x13 x14 x19 false))) else (epitomelaw19_SeekKept.j8 k x7 x8 x10 x11 x12 x13 x14 x19 true)) else (none)) else (none)))) else (epitomelaw19_SeekKept.j8 k x7 x8 x10 x11 x12 x13 x14 x19 false)
def epitomelaw19_SeekKept.j8 : Nat → Bool → List Int → List Int → List Int → Int → Int → Int → Bool → Bool → Option (Bool)
  | 0, _, _, _, _, _, _, _, _, _ => none
  | k + 1, x7, x8, x10, x11, x12, x13, x14, x19, x157 => if x157 = true then (some false) else (if x19 = true then (epitomelaw19_SeekKept.l1 k x7 x8 x10 x11 (wrap64 (x12 + 1))) else (if x13 = 0 then (if x14 = 0 then (epitomelaw19_SeekKept.l1 k x7 x8 x10 x11 (wrap64 (x12 + 1))) else (some false)) else (some false)))
end
def epitomelaw19_SeekKept.f (k : Nat) (a0 : Int) (l1 : List Int) (a2 : Int) : Option (Bool) := (epitomelaw19_shown.f).bind fun t101 => (epitomelaw19_SeekKept.l0 k a0 l1 a2 t101 (([] : List Int)) 0)
theorem epitomelaw19_SeekKept.mono_l : ∀ k, (∀ y0 y1 y2 y3 y4 y5, LeO (epitomelaw19_SeekKept.l0 k y0 y1 y2 y3 y4 y5) (epitomelaw19_SeekKept.l0 (k + 1) y0 y1 y2 y3 y4 y5)) ∧ (∀ y0 y1 y2 y3 y4, LeO (epitomelaw19_SeekKept.j1 k y0 y1 y2 y3 y4) (epitomelaw19_SeekKept.j1 (k + 1) y0 y1 y2 y3 y4)) ∧ (∀ y0 y1 y2 y3 y4, LeO (epitomelaw19_SeekKept.l1 k y0 y1 y2 y3 y4) (epitomelaw19_SeekKept.l1 (k + 1) y0 y1 y2 y3 y4)) ∧ (∀ y0 y1 y2 y3 y4 y5 y6 y7 y8, LeO (epitomelaw19_SeekKept.j3 k y0 y1 y2 y3 y4 y5 y6 y7 y8) (epitomelaw19_SeekKept.j3 (k + 1) y0 y1 y2 y3 y4 y5 y6 y7 y8)) ∧ (∀ y0 y1 y2 y3 y4 y5 y6 y7 y8 y9, LeO (epitomelaw19_SeekKept.l2 k y0 y1 y2 y3 y4 y5 y6 y7 y8 y9) (epitomelaw19_SeekKept.l2 (k + 1) y0 y1 y2 y3 y4 y5 y6 y7 y8 y9)) ∧ (∀ y0 y1 y2 y3 y4 y5 y6 y7 y8, LeO (epitomelaw19_SeekKept.j5 k y0 y1 y2 y3 y4 y5 y6 y7 y8) (epitomelaw19_SeekKept.j5 (k + 1) y0 y1 y2 y3 y4 y5 y6 y7 y8)) ∧ (∀ y0 y1 y2 y3 y4 y5 y6 y7 y8, LeO (epitomelaw19_SeekKept.j6 k y0 y1 y2 y3 y4 y5 y6 y7 y8) (epitomelaw19_SeekKept.j6 (k + 1) y0 y1 y2 y3 y4 y5 y6 y7 y8)) ∧ (∀ y0 y1 y2 y3 y4 y5 y6 y7, LeO (epitomelaw19_SeekKept.j7 k y0 y1 y2 y3 y4 y5 y6 y7) (epitomelaw19_SeekKept.j7 (k + 1) y0 y1 y2 y3 y4 y5 y6 y7)) ∧ (∀ y0 y1 y2 y3 y4 y5 y6 y7 y8, LeO (epitomelaw19_SeekKept.j8 k y0 y1 y2 y3 y4 y5 y6 y7 y8) (epitomelaw19_SeekKept.j8 (k + 1) y0 y1 y2 y3 y4 y5 y6 y7 y8))
  | 0 => ⟨fun _ _ _ _ _ _ r h => by simp [epitomelaw19_SeekKept.l0] at h, fun _ _ _ _ _ r h => by simp [epitomelaw19_SeekKept.j1] at h, fun _ _ _ _ _ r h => by simp [epitomelaw19_SeekKept.l1] at h, fun _ _ _ _ _ _ _ _ _ r h => by simp [epitomelaw19_SeekKept.j3] at h, fun _ _ _ _ _ _ _ _ _ _ r h => by simp [epitomelaw19_SeekKept.l2] at h, fun _ _ _ _ _ _ _ _ _ r h => by simp [epitomelaw19_SeekKept.j5] at h, fun _ _ _ _ _ _ _ _ _ r h => by simp [epitomelaw19_SeekKept.j6] at h, fun _ _ _ _ _ _ _ _ r h => by simp [epitomelaw19_SeekKept.j7] at h, fun _ _ _ _ _ _ _ _ _ r h => by simp [epitomelaw19_SeekKept.j8] at h⟩
  | k + 1 => by
    obtain ⟨ih0, ih1, ih2, ih3, ih4, ih5, ih6, ih7, ih8⟩ := epitomelaw19_SeekKept.mono_l k
    refine ⟨?_, ?_, ?_, ?_, ?_, ?_, ?_, ?_, ?_⟩
    · intro y0 y1 y2 y3 y4 y5
      unfold epitomelaw19_SeekKept.l0
      repeat' first
      | (with_reducible exact ih0 _ _ _ _ _ _)
      | (with_reducible exact ih1 _ _ _ _ _)
      | (with_reducible exact ih2 _ _ _ _ _)
      | (with_reducible exact ih3 _ _ _ _ _ _ _ _ _)
      | (with_reducible exact ih4 _ _ _ _ _ _ _ _ _ _)
      | (with_reducible exact ih5 _ _ _ _ _ _ _ _ _)
      | (with_reducible exact ih6 _ _ _ _ _ _ _ _ _)
      | (with_reducible exact ih7 _ _ _ _ _ _ _ _)
      | (with_reducible exact ih8 _ _ _ _ _ _ _ _ _)
      | (with_reducible exact LeO.refl _)
      | (with_reducible exact LeO.none _)
      | (with_reducible refine LeO.ite ?_ ?_)
      | (with_reducible refine LeO.bind ?_ (fun _ => ?_))
      | exact ih0 _ _ _ _ _ _
      | exact ih1 _ _ _ _ _
      | exact ih2 _ _ _ _ _
      | exact ih3 _ _ _ _ _ _ _ _ _
      | exact ih4 _ _ _ _ _ _ _ _ _ _
      | exact ih5 _ _ _ _ _ _ _ _ _
      | exact ih6 _ _ _ _ _ _ _ _ _
      | exact ih7 _ _ _ _ _ _ _ _
      | exact ih8 _ _ _ _ _ _ _ _ _
      | exact LeO.none _
      | refine LeO.ite ?_ ?_
      | refine LeO.bind ?_ (fun _ => ?_)
    · intro y0 y1 y2 y3 y4
      unfold epitomelaw19_SeekKept.j1
      repeat' first
      | (with_reducible exact ih0 _ _ _ _ _ _)
      | (with_reducible exact ih1 _ _ _ _ _)
      | (with_reducible exact ih2 _ _ _ _ _)
      | (with_reducible exact ih3 _ _ _ _ _ _ _ _ _)
      | (with_reducible exact ih4 _ _ _ _ _ _ _ _ _ _)
      | (with_reducible exact ih5 _ _ _ _ _ _ _ _ _)
      | (with_reducible exact ih6 _ _ _ _ _ _ _ _ _)
      | (with_reducible exact ih7 _ _ _ _ _ _ _ _)
      | (with_reducible exact ih8 _ _ _ _ _ _ _ _ _)
      | (with_reducible exact LeO.refl _)
      | (with_reducible exact LeO.none _)
      | (with_reducible refine LeO.ite ?_ ?_)
      | (with_reducible refine LeO.bind ?_ (fun _ => ?_))
      | exact ih0 _ _ _ _ _ _
      | exact ih1 _ _ _ _ _
      | exact ih2 _ _ _ _ _
      | exact ih3 _ _ _ _ _ _ _ _ _
      | exact ih4 _ _ _ _ _ _ _ _ _ _
      | exact ih5 _ _ _ _ _ _ _ _ _
      | exact ih6 _ _ _ _ _ _ _ _ _
      | exact ih7 _ _ _ _ _ _ _ _
      | exact ih8 _ _ _ _ _ _ _ _ _
      | exact LeO.none _
      | refine LeO.ite ?_ ?_
      | refine LeO.bind ?_ (fun _ => ?_)
    · intro y0 y1 y2 y3 y4
      unfold epitomelaw19_SeekKept.l1
      repeat' first
      | (with_reducible exact ih0 _ _ _ _ _ _)
      | (with_reducible exact ih1 _ _ _ _ _)
      | (with_reducible exact ih2 _ _ _ _ _)
      | (with_reducible exact ih3 _ _ _ _ _ _ _ _ _)
      | (with_reducible exact ih4 _ _ _ _ _ _ _ _ _ _)
      | (with_reducible exact ih5 _ _ _ _ _ _ _ _ _)
      | (with_reducible exact ih6 _ _ _ _ _ _ _ _ _)
      | (with_reducible exact ih7 _ _ _ _ _ _ _ _)
      | (with_reducible exact ih8 _ _ _ _ _ _ _ _ _)
      | (with_reducible exact LeO.refl _)
      | (with_reducible exact LeO.none _)
      | (with_reducible refine LeO.ite ?_ ?_)
      | (with_reducible refine LeO.bind ?_ (fun _ => ?_))
      | exact ih0 _ _ _ _ _ _
      | exact ih1 _ _ _ _ _
      | exact ih2 _ _ _ _ _
      | exact ih3 _ _ _ _ _ _ _ _ _
      | exact ih4 _ _ _ _ _ _ _ _ _ _
      | exact ih5 _ _ _ _ _ _ _ _ _
      | exact ih6 _ _ _ _ _ _ _ _ _
      | exact ih7 _ _ _ _ _ _ _ _
      | exact ih8 _ _ _ _ _ _ _ _ _
      | exact LeO.none _
      | refine LeO.ite ?_ ?_
      | refine LeO.bind ?_ (fun _ => ?_)
    · intro y0 y1 y2 y3 y4 y5 y6 y7 y8
      unfold epitomelaw19_SeekKept.j3
      repeat' first
      | (with_reducible exact ih0 _ _ _ _ _ _)
      | (with_reducible exact ih1 _ _ _ _ _)
      | (with_reducible exact ih2 _ _ _ _ _)
      | (with_reducible exact ih3 _ _ _ _ _ _ _ _ _)
      | (with_reducible exact ih4 _ _ _ _ _ _ _ _ _ _)
      | (with_reducible exact ih5 _ _ _ _ _ _ _ _ _)
      | (with_reducible exact ih6 _ _ _ _ _ _ _ _ _)
      | (with_reducible exact ih7 _ _ _ _ _ _ _ _)
      | (with_reducible exact ih8 _ _ _ _ _ _ _ _ _)
      | (with_reducible exact LeO.refl _)
      | (with_reducible exact LeO.none _)
      | (with_reducible refine LeO.ite ?_ ?_)
      | (with_reducible refine LeO.bind ?_ (fun _ => ?_))
      | exact ih0 _ _ _ _ _ _
      | exact ih1 _ _ _ _ _
      | exact ih2 _ _ _ _ _
      | exact ih3 _ _ _ _ _ _ _ _ _
      | exact ih4 _ _ _ _ _ _ _ _ _ _
      | exact ih5 _ _ _ _ _ _ _ _ _
      | exact ih6 _ _ _ _ _ _ _ _ _
      | exact ih7 _ _ _ _ _ _ _ _
      | exact ih8 _ _ _ _ _ _ _ _ _
      | exact LeO.none _
      | refine LeO.ite ?_ ?_
      | refine LeO.bind ?_ (fun _ => ?_)
    · intro y0 y1 y2 y3 y4 y5 y6 y7 y8 y9
      unfold epitomelaw19_SeekKept.l2
      repeat' first
      | (with_reducible exact ih0 _ _ _ _ _ _)
      | (with_reducible exact ih1 _ _ _ _ _)
      | (with_reducible exact ih2 _ _ _ _ _)
      | (with_reducible exact ih3 _ _ _ _ _ _ _ _ _)
      | (with_reducible exact ih4 _ _ _ _ _ _ _ _ _ _)
      | (with_reducible exact ih5 _ _ _ _ _ _ _ _ _)
      | (with_reducible exact ih6 _ _ _ _ _ _ _ _ _)
      | (with_reducible exact ih7 _ _ _ _ _ _ _ _)
      | (with_reducible exact ih8 _ _ _ _ _ _ _ _ _)
      | (with_reducible exact LeO.refl _)
      | (with_reducible exact LeO.none _)
      | (with_reducible refine LeO.ite ?_ ?_)
      | (with_reducible refine LeO.bind ?_ (fun _ => ?_))
      | exact ih0 _ _ _ _ _ _
      | exact ih1 _ _ _ _ _
      | exact ih2 _ _ _ _ _
      | exact ih3 _ _ _ _ _ _ _ _ _
      | exact ih4 _ _ _ _ _ _ _ _ _ _
      | exact ih5 _ _ _ _ _ _ _ _ _
      | exact ih6 _ _ _ _ _ _ _ _ _
      | exact ih7 _ _ _ _ _ _ _ _
      | exact ih8 _ _ _ _ _ _ _ _ _
      | exact LeO.none _
      | refine LeO.ite ?_ ?_
      | refine LeO.bind ?_ (fun _ => ?_)
    · intro y0 y1 y2 y3 y4 y5 y6 y7 y8
      unfold epitomelaw19_SeekKept.j5
      repeat' first
      | (with_reducible exact ih0 _ _ _ _ _ _)
      | (with_reducible exact ih1 _ _ _ _ _)
      | (with_reducible exact ih2 _ _ _ _ _)
      | (with_reducible exact ih3 _ _ _ _ _ _ _ _ _)
      | (with_reducible exact ih4 _ _ _ _ _ _ _ _ _ _)
      | (with_reducible exact ih5 _ _ _ _ _ _ _ _ _)
      | (with_reducible exact ih6 _ _ _ _ _ _ _ _ _)
      | (with_reducible exact ih7 _ _ _ _ _ _ _ _)
      | (with_reducible exact ih8 _ _ _ _ _ _ _ _ _)
      | (with_reducible exact LeO.refl _)
      | (with_reducible exact LeO.none _)
      | (with_reducible refine LeO.ite ?_ ?_)
      | (with_reducible refine LeO.bind ?_ (fun _ => ?_))
      | exact ih0 _ _ _ _ _ _
      | exact ih1 _ _ _ _ _
      | exact ih2 _ _ _ _ _
      | exact ih3 _ _ _ _ _ _ _ _ _
      | exact ih4 _ _ _ _ _ _ _ _ _ _
      | exact ih5 _ _ _ _ _ _ _ _ _
      | exact ih6 _ _ _ _ _ _ _ _ _
      | exact ih7 _ _ _ _ _ _ _ _
      | exact ih8 _ _ _ _ _ _ _ _ _
      | exact LeO.none _
      | refine LeO.ite ?_ ?_
      | refine LeO.bind ?_ (fun _ => ?_)
    · intro y0 y1 y2 y3 y4 y5 y6 y7 y8
      unfold epitomelaw19_SeekKept.j6
      repeat' first
      | (with_reducible exact ih0 _ _ _ _ _ _)
      | (with_reducible exact ih1 _ _ _ _ _)
      | (with_reducible exact ih2 _ _ _ _ _)
      | (with_reducible exact ih3 _ _ _ _ _ _ _ _ _)
      | (with_reducible exact ih4 _ _ _ _ _ _ _ _ _ _)
      | (with_reducible exact ih5 _ _ _ _ _ _ _ _ _)
      | (with_reducible exact ih6 _ _ _ _ _ _ _ _ _)
      | (with_reducible exact ih7 _ _ _ _ _ _ _ _)
      | (with_reducible exact ih8 _ _ _ _ _ _ _ _ _)
      | (with_reducible exact LeO.refl _)
      | (with_reducible exact LeO.none _)
      | (with_reducible refine LeO.ite ?_ ?_)
      | (with_reducible refine LeO.bind ?_ (fun _ => ?_))
      | exact ih0 _ _ _ _ _ _
      | exact ih1 _ _ _ _ _
      | exact ih2 _ _ _ _ _
      | exact ih3 _ _ _ _ _ _ _ _ _
      | exact ih4 _ _ _ _ _ _ _ _ _ _
      | exact ih5 _ _ _ _ _ _ _ _ _
      | exact ih6 _ _ _ _ _ _ _ _ _
      | exact ih7 _ _ _ _ _ _ _ _
      | exact ih8 _ _ _ _ _ _ _ _ _
      | exact LeO.none _
      | refine LeO.ite ?_ ?_
      | refine LeO.bind ?_ (fun _ => ?_)
    · intro y0 y1 y2 y3 y4 y5 y6 y7
      unfold epitomelaw19_SeekKept.j7
      repeat' first
      | (with_reducible exact ih0 _ _ _ _ _ _)
      | (with_reducible exact ih1 _ _ _ _ _)
      | (with_reducible exact ih2 _ _ _ _ _)
      | (with_reducible exact ih3 _ _ _ _ _ _ _ _ _)
      | (with_reducible exact ih4 _ _ _ _ _ _ _ _ _ _)
      | (with_reducible exact ih5 _ _ _ _ _ _ _ _ _)
      | (with_reducible exact ih6 _ _ _ _ _ _ _ _ _)
      | (with_reducible exact ih7 _ _ _ _ _ _ _ _)
      | (with_reducible exact ih8 _ _ _ _ _ _ _ _ _)
      | (with_reducible exact LeO.refl _)
      | (with_reducible exact LeO.none _)
      | (with_reducible refine LeO.ite ?_ ?_)
      | (with_reducible refine LeO.bind ?_ (fun _ => ?_))
      | exact ih0 _ _ _ _ _ _
      | exact ih1 _ _ _ _ _
      | exact ih2 _ _ _ _ _
      | exact ih3 _ _ _ _ _ _ _ _ _
      | exact ih4 _ _ _ _ _ _ _ _ _ _
      | exact ih5 _ _ _ _ _ _ _ _ _
      | exact ih6 _ _ _ _ _ _ _ _ _
      | exact ih7 _ _ _ _ _ _ _ _
      | exact ih8 _ _ _ _ _ _ _ _ _
      | exact LeO.none _
      | refine LeO.ite ?_ ?_
      | refine LeO.bind ?_ (fun _ => ?_)
    · intro y0 y1 y2 y3 y4 y5 y6 y7 y8
      unfold epitomelaw19_SeekKept.j8
      repeat' first
      | (with_reducible exact ih0 _ _ _ _ _ _)
      | (with_reducible exact ih1 _ _ _ _ _)
      | (with_reducible exact ih2 _ _ _ _ _)
      | (with_reducible exact ih3 _ _ _ _ _ _ _ _ _)
      | (with_reducible exact ih4 _ _ _ _ _ _ _ _ _ _)
      | (with_reducible exact ih5 _ _ _ _ _ _ _ _ _)
      | (with_reducible exact ih6 _ _ _ _ _ _ _ _ _)
      | (with_reducible exact ih7 _ _ _ _ _ _ _ _)
      | (with_reducible exact ih8 _ _ _ _ _ _ _ _ _)
      | (with_reducible exact LeO.refl _)
      | (with_reducible exact LeO.none _)
      | (with_reducible refine LeO.ite ?_ ?_)
      | (with_reducible refine LeO.bind ?_ (fun _ => ?_))
      | exact ih0 _ _ _ _ _ _
      | exact ih1 _ _ _ _ _
      | exact ih2 _ _ _ _ _
      | exact ih3 _ _ _ _ _ _ _ _ _
      | exact ih4 _ _ _ _ _ _ _ _ _ _
      | exact ih5 _ _ _ _ _ _ _ _ _
      | exact ih6 _ _ _ _ _ _ _ _ _
      | exact ih7 _ _ _ _ _ _ _ _
      | exact ih8 _ _ _ _ _ _ _ _ _
      | exact LeO.none _
      | refine LeO.ite ?_ ?_
      | refine LeO.bind ?_ (fun _ => ?_)
theorem epitomelaw19_SeekKept.mono : ∀ a0 a1 a2 k, LeO (epitomelaw19_SeekKept.f k a0 a1 a2) (epitomelaw19_SeekKept.f (k + 1) a0 a1 a2) := by
  intro a0 a1 a2 k
  obtain ⟨ih0, ih1, ih2, ih3, ih4, ih5, ih6, ih7, ih8⟩ := epitomelaw19_SeekKept.mono_l k
  unfold epitomelaw19_SeekKept.f
  repeat' first
      | (with_reducible exact ih0 _ _ _ _ _ _)
      | (with_reducible exact ih1 _ _ _ _ _)
      | (with_reducible exact ih2 _ _ _ _ _)
      | (with_reducible exact ih3 _ _ _ _ _ _ _ _ _)
      | (with_reducible exact ih4 _ _ _ _ _ _ _ _ _ _)
      | (with_reducible exact ih5 _ _ _ _ _ _ _ _ _)
      | (with_reducible exact ih6 _ _ _ _ _ _ _ _ _)
      | (with_reducible exact ih7 _ _ _ _ _ _ _ _)
      | (with_reducible exact ih8 _ _ _ _ _ _ _ _ _)
      | (with_reducible exact LeO.refl _)
      | (with_reducible exact LeO.none _)
      | (with_reducible refine LeO.ite ?_ ?_)
      | (with_reducible refine LeO.bind ?_ (fun _ => ?_))
      | exact ih0 _ _ _ _ _ _
      | exact ih1 _ _ _ _ _
      | exact ih2 _ _ _ _ _
      | exact ih3 _ _ _ _ _ _ _ _ _
      | exact ih4 _ _ _ _ _ _ _ _ _ _
      | exact ih5 _ _ _ _ _ _ _ _ _
      | exact ih6 _ _ _ _ _ _ _ _ _
      | exact ih7 _ _ _ _ _ _ _ _
      | exact ih8 _ _ _ _ _ _ _ _ _
      | exact LeO.none _
      | refine LeO.ite ?_ ?_
      | refine LeO.bind ?_ (fun _ => ?_)
set_option maxHeartbeats 8000000 in
set_option maxRecDepth 100000 in
theorem epitomelaw19_SeekKept.calls (k : Nat) (a0 : Int) (A1 : Option Addr) (c1 : Nat) (l1 : List Int) (a2 : Int) (r : Bool) (w : World) (hr1 : Kd.C (Kd.int .i64) w A1 l1.length l1) (hc1 : l1.length ≤ c1) (h : epitomelaw19_SeekKept.f k a0 l1 a2 = some r) :
    Calls Try.prog 10 #[.int .u8 a0, .slice A1 l1.length c1, .int .i64 a2] w fun e w' => e = .returned (.bool r) ∧ Below w.heap.size w w' := by
  have HR1 := Aside0.mk hr1
  have HC1 := Aside0.mk hc1
  clear hr1 hc1
  have HB := Aside0.mk (Below.refl w.heap.size w)
  have H : ((epitomelaw19_shown.f).bind fun t101 => (epitomelaw19_SeekKept.l0 k a0 l1 a2 t101 (([] : List Int)) 0)) = some r := h
  clear h
  replace H := Option.bind_eq_some_iff.mp H
  obtain ⟨t101, A40, H⟩ := H
  replace H : (epitomelaw19_SeekKept.l0 k a0 l1 a2 t101 (([] : List Int)) 0) = some r := H
  have A4 := Aside0.mk A40
  clear A40
  obtain ⟨y102, hy102⟩ : ∃ y_ : List Int, y_ = (([] : List Int)) := ⟨_, rfl⟩
  replace H : (epitomelaw19_SeekKept.l0 k a0 l1 a2 t101 y102 0) = some r := by first | (rw [hy102]; with_reducible exact H) | (have H2_ := (Option.bind_some _ _).symm.trans H; rw [hy102]; with_reducible exact H2_) | (have H2_ := (Option.bind_some _ _).symm.trans H; with_reducible exact H2_) | with_reducible exact H | (rw [hy102]; exact H) | exact H
  have Ny102 := Aside0.mk hy102
  clear hy102
  have H' := Aside0.mk H
  clear H
  go_enter Try.func10, Try.ntmps10
  go_wp2_with (first | ((with_reducible refine gate_callee (f := 20) rfl ?_); refine goesL_ (some 20) rfl rfl Try.func20 (by kernel_rfl) rfl #[] rfl (by (try simp only [List.map_toArray, List.map_cons, List.map_nil]); first | done | rfl | (simp only [List.length_drop, List.length_take]; rfl)) ?_; (with_reducible refine (epitomelaw19_shown.calls  t101 _ A4.out).mono ?_); rintro e w5 ⟨rfl, hb⟩; refine ⟨_, rfl, ?_⟩; have n0_ := Aside0.mk (below_step (by repeat (first | (with_reducible first | exact HB.out | apply below_alloc | apply pw_below_drewN | apply below_drew1) | exact HB.out)) hb); clear HB; have HB := n0_; clear n0_; (try clear hb); (try clear hb2); (try clear hk); (try clear hi)) | ((with_reducible refine gate_dst (N := 21) rfl ?_); (try (refine gate_guard (by rfl) ?_; dsimp only)); refine Kd.R_lit (Kd.int .i64) _ 3 ?hg (N := 21) ?hd (xs := ([] : List Int)) (inner := []) (ok := fun _ => True) (okp := fun _ => True) ?hr ?hp (fun _ hk => hk) trivial (Below.refl _ _) (Nat.le_refl _) (by simp) ?_; (case hd => rfl); (case hg => rfl); (case hr => first | (go_simp; done) | (go_simp; rfl)); (case hp => exact (Reps.none _ _)); intro v103 w6 ho7 hb hg_ hnew_; clear hg_ hnew_; (first | rw [← Ny102.out] at ho7 | (simp only [Int.reduceToNat] at ho7; rw [← Ny102.out] at ho7)); have n0_ := Aside0.mk (Kd.R_lower ho7 (below_size (by repeat (first | (with_reducible first | exact HB.out | apply below_alloc | apply pw_below_drewN | apply below_drew1) | exact HB.out)))); have n1_ := Aside0.mk (below_step (by repeat (first | (with_reducible first | exact HB.out | apply below_alloc | apply pw_below_drewN | apply below_drew1) | exact HB.out)) hb); clear HB; have HO104 := n0_; have HB := n1_; clear n0_ n1_; clear hb ho7))
  go_loopg [8, 9] k (fun kq v8 v9 w' => ∃ (x8_1 : List Int) (x9_1 : Int), v9 = .int .i64 x9_1 ∧ Aside0 (epitomelaw19_SeekKept.l0 kq a0 l1 a2 t101 x8_1 x9_1 = some r) ∧ Aside0 (kq ≤ k) ∧ Aside0 (Kd.R (Kd.int .i64) 3 w' w.heap.size (fun _ => True) v8 x8_1) ∧ Aside0 (Below w.heap.size w w'))
  case atStart => exact ⟨(y102), (0), (by first | rfl | (simp; done) | (simp [*]; done)), H', ⟨Nat.le_refl _⟩, ⟨by (with_reducible repeat (first | apply Kd.R_alloc | apply Kd.R_drewN | apply Kd.R_drew)); exact HO104.out⟩, ⟨by repeat (first | (with_reducible first | exact HB.out | apply below_alloc | apply pw_below_drewN | apply below_drew1) | exact HB.out)⟩⟩
  case round =>
    clear H'
    try clear c1
    try clear c2
    try clear p2
    obtain ⟨x8_1, x9_1, rfl, HA, HK1, HO_8, HB⟩ := hrel
    cases gk with
    | zero => exact absurd HA.out (by simp [epitomelaw19_SeekKept.l0])
    | succ k1 =>
      have H := HA.out
      clear HA
      simp only [epitomelaw19_SeekKept.l0] at H
      by_cases c8 : x9_1 ≤ (Int.tmod (wrap64 (a0)) 41)
      · rw [if_pos c8] at H
        have c8b0 : decide (x9_1 ≤ (Int.tmod (wrap64 (a0)) 41)) = true := decide_eq_true c8
        clear c8
        by_cases c9 : x8_1.length < 17592186044416
        · rw [if_pos c9] at H
          have LMc9 := Aside0.mk c9
          clear c9
          obtain ⟨y105, hy105⟩ : ∃ y_ : List Int, y_ = (x8_1 ++ [x9_1]) := ⟨_, rfl⟩
          replace H : (epitomelaw19_SeekKept.l0 k1 a0 l1 a2 t101 y105 (wrap64 (x9_1 + 1))) = some r := by first | (rw [hy105]; with_reducible exact H) | (have H2_ := (Option.bind_some _ _).symm.trans H; rw [hy105]; with_reducible exact H2_) | (have H2_ := (Option.bind_some _ _).symm.trans H; with_reducible exact H2_) | with_reducible exact H | (rw [hy105]; exact H) | exact H
          have Ny105 := Aside0.mk hy105
          clear hy105
          have H' := Aside0.mk H
          clear H
          go_wp2_with (first | ((with_reducible refine gate_builtin (b := .append) (xs := #[.tmp 29, .tmp 31]) rfl ?_); (try (refine gate_guard (by rfl) ?_; dsimp only)); at_builtin; refine Kd.R_append (Kd.int .i64) (w0 := w) w.heap.size rfl (.tmp 29) (.tmp 31) 22 3 (.int .i64 0) 8 rfl Try.underlying22 info3 rfl (by decide) (by omega) u8 x8_1 x9_1 [.int .i64 x9_1] (fun _ => True) (fun _ => False) rfl rfl ?aP (fun _ hk => hk.elim) ?aF ?aO ?aB ?aS ?aL ?_; (case aP => exact rfl); (case aB => exact (by repeat (first | (with_reducible first | exact HB.out | apply below_alloc | apply pw_below_drewN | apply below_drew1) | exact HB.out))); (case aF => exact (fun _ _ => trivial)); (case aO => exact (by (with_reducible repeat (first | apply Kd.R_alloc | apply Kd.R_drewN | apply Kd.R_drew)); exact HO_8.out)); (case aS => exact (below_size (by repeat (first | (with_reducible first | exact HB.out | apply below_alloc | apply pw_below_drewN | apply below_drew1) | exact HB.out)))); (case aL => have := LMc9.out; omega); intro v106 w10 ho hb hg hat; rw [← Ny105.out] at ho; have n0_ := Aside0.mk (hb); have n1_ := Aside0.mk (ho); clear HB; clear HO_8; have HB := n0_; have HO107 := n1_; clear n0_ n1_; clear ho hb hg hat))
          go_roundg k1
          case measure => have := HK1.out; omega
          case rel => exact ⟨(y105), (wrap64 (x9_1 + 1)), (by first | rfl | (simp; done) | (simp [*]; done)), H', ⟨by have := HK1.out; omega⟩, ⟨by (with_reducible repeat (first | apply Kd.R_alloc | apply Kd.R_drewN | apply Kd.R_drew)); exact HO107.out⟩, ⟨by repeat (first | (with_reducible first | exact HB.out | apply below_alloc | apply pw_below_drewN | apply below_drew1) | exact HB.out)⟩⟩
        · rw [if_neg c9] at H
          exact absurd H (by simp)
      · rw [if_neg c8] at H
        have c8b0 : decide (x9_1 ≤ (Int.tmod (wrap64 (a0)) 41)) = false := decide_eq_false c8
        clear c8
        obtain ⟨ji11, hji11⟩ : ∃ j_ : Int, (mn (l1.length : Int) 30) = j_ := ⟨_, rfl⟩
        replace H : (if 0 ≤ (ji11) then (if (ji11) ≤ (l1.length : Int) then ((some (l1.take ((ji11) : Int).toNat : List Int)).bind fun y108 => ((keep_Of.f x8_1 y108 a2).bind fun t112 => (if (t112.length : Int) = 0 then (epitomelaw19_SeekKept.j1 k1 t101 x8_1 y108 t112 true) else (epitomelaw19_SeekKept.j1 k1 t101 x8_1 y108 t112 (decide ((t112.length : Int) > (x8_1.length : Int))))))) else (none)) else (none)) = some r := by first | (rw [hji11] at H; exact H) | (simp only [hji11] at H ⊢; exact H)
        have hji11_ : (if 30 < (l1.length : Int) then 30 else (l1.length : Int)) = ji11 := hji11
        by_cases c12 : 0 ≤ (ji11)
        · rw [if_pos c12] at H
          have c12b0 := eq_true c12
          have c12b1 : decide (0 ≤ (ji11)) = true := decide_eq_true c12
          clear c12
          by_cases c13 : (ji11) ≤ (l1.length : Int)
          · rw [if_pos c13] at H
            have c13b0 := eq_true c13
            have c13b1 : decide ((ji11) ≤ (l1.length : Int)) = true := decide_eq_true c13
            clear c13
            obtain ⟨y108, hy108⟩ : ∃ y_ : List Int, y_ = (l1.take ((ji11) : Int).toNat) := ⟨_, rfl⟩
            replace H : ((keep_Of.f x8_1 y108 a2).bind fun t112 => (if (t112.length : Int) = 0 then (epitomelaw19_SeekKept.j1 k1 t101 x8_1 y108 t112 true) else (epitomelaw19_SeekKept.j1 k1 t101 x8_1 y108 t112 (decide ((t112.length : Int) > (x8_1.length : Int)))))) = some r := by first | (rw [hy108]; with_reducible exact H) | (have H2_ := (Option.bind_some _ _).symm.trans H; rw [hy108]; with_reducible exact H2_) | (have H2_ := (Option.bind_some _ _).symm.trans H; with_reducible exact H2_) | with_reducible exact H | (rw [hy108]; exact H) | exact H
            have Ny108 := Aside0.mk hy108
            clear hy108
            replace H := Option.bind_eq_some_iff.mp H
            obtain ⟨t112, A140, H⟩ := H
            replace H : (if (t112.length : Int) = 0 then (epitomelaw19_SeekKept.j1 k1 t101 x8_1 y108 t112 true) else (epitomelaw19_SeekKept.j1 k1 t101 x8_1 y108 t112 (decide ((t112.length : Int) > (x8_1.length : Int))))) = some r := H
            have A14 := Aside0.mk A140
            clear A140
            have HC15 := Aside0.mk H
            clear H
            have q16 : ((ji11) : Int) ≤ ((l1.length : Int) : Int) := of_decide_eq_true (by first | (with_reducible assumption) | assumption)
            obtain ⟨i016, hi016, _, hsz16, _⟩ := info_parts info3
            have hroom16 : l1.length ≤ c1 := HC1.out
            have hC16 : Kd.C (Kd.int .i64) _ A1 l1.length l1 := HR1.out
            have hcut16 := cut_to (P := Try.prog) 22 3 .i64 Try.underlying22 hi016 A1 l1.length c1 (ji11) (of_decide_eq_true (by first | (with_reducible assumption) | assumption)) q16 hroom16
            have hr16 := Kd.C_take (m := ((ji11) : Int).toNat) hC16 (by omega)
            have hy16 : y108.length = ((ji11) : Int).toNat := (by rw [Ny108.out, List.length_take]; omega)
            rw [← Ny108.out] at hr16
            rw [← hy16] at hcut16
            have HR111 := Aside0.mk hr16
            have HC111 := Aside0.mk (show y108.length ≤ c1 from by omega)
            clear hr16 hC16 hroom16 hi016 hsz16
            have KY16 := Aside0.mk hy16
            clear hy16
            replace q16 := eq_true q16
            obtain ⟨Ao17, co17, eo17⟩ := Kd.R_slice HO_8.out
            subst eo17
            go_upto_region 9 with (first | ((with_reducible refine gate_callee (f := 16) rfl ?_); refine goesL_ (some 41) rfl rfl Try.func16 (by kernel_rfl) rfl #[.slice Ao17 x8_1.length co17, .slice A1 y108.length c1, .int .i64 a2] rfl (by (try simp only [List.map_toArray, List.map_cons, List.map_nil]); first | done | rfl | (simp only [List.length_drop, List.length_take]; rfl)) ?_; (with_reducible refine (keep_Of.calls _ _ x8_1 _ _ y108 a2 t112 _ ?side1 ?side2 ?side3 ?side4 A14.out).mono ?_); (case side1 => repeat (first | exact (Kd.R_reads' HO_8.out).2.2 | (with_reducible refine Kd.C_alloc ?_ _) | (with_reducible refine Kd.C_drewN ?_ _) | (with_reducible refine Kd.C_drew ?_))); (case side2 => exact (Kd.R_reads' HO_8.out).2.1); (case side3 => repeat (first | exact (Kd.C_below HR111.out HB.out) | (with_reducible refine Kd.C_alloc ?_ _) | (with_reducible refine Kd.C_drewN ?_ _) | (with_reducible refine Kd.C_drew ?_))); (case side4 => exact HC111.out); rintro e w18 ⟨v113, rfl, ho0, hb⟩; refine ⟨_, rfl, ?_⟩; have n0_ := Aside0.mk (Kd.R_elder' (by (with_reducible repeat (first | apply Kd.R_alloc | apply Kd.R_drewN | apply Kd.R_drew)); exact HO_8.out) (Kd.R_base ho0) hb); have n1_ := Aside0.mk (Kd.R_lower (Kd.R_new' ho0 (Kd.R_lt (by (with_reducible repeat (first | apply Kd.R_alloc | apply Kd.R_drewN | apply Kd.R_drew)); exact HO_8.out))) (below_size (by repeat (first | (with_reducible first | exact HB.out | apply below_alloc | apply pw_below_drewN | apply below_drew1) | exact HB.out)))); have n2_ := Aside0.mk (below_step (by repeat (first | (with_reducible first | exact HB.out | apply below_alloc | apply pw_below_drewN | apply below_drew1) | exact HB.out)) hb); clear HO_8; clear HB; have HO_8 := n0_; have HO114 := n1_; have HB := n2_; clear n0_ n1_ n2_; (try clear hb); (try clear hb2); (try clear hk); (try clear hi); (try clear ho0)))
            (try simp only [Act.put, List.setIfInBounds_toArray, List.set_cons_zero, List.set_cons_succ])
            go_cut [51] (fun v51 wc => ∃ (kq : Nat) (x51_14 : Bool), v51 = .bool x51_14 ∧ Aside0 (epitomelaw19_SeekKept.j1 kq t101 x8_1 y108 t112 x51_14 = some r) ∧ Aside0 (kq ≤ k1) ∧ Aside0 (Kd.R (Kd.int .i64) 3 wc w.heap.size (fun k_ => some k_ ≠ (v113 : Value).ownBlock) (.slice Ao17 x8_1.length co17) x8_1) ∧ Aside0 (Kd.R (Kd.int .i64) 3 wc w.heap.size (fun k_ => some k_ ≠ ((.slice Ao17 x8_1.length co17) : Value).ownBlock) v113 t112) ∧ Aside0 (Below w.heap.size w wc))
            case first =>
              have H := HC15.out
              clear HC15
              by_cases c19 : (t112.length : Int) = 0
              · rw [if_pos c19] at H
                have c19b0 : ((t112.length : Int) == 0) = true := beq_iff_eq.mpr c19
                have c19b1 : ((t112.length : Int) != 0) = false := bne_eq_false_iff_eq.mpr c19
                clear c19
                (first | rw [c19b0] | (simp only [i64_w, i32_w]; rw [c19b0]) | skip)
                have H' := Aside0.mk H
                clear H
                obtain ⟨Ao20, co20, eo20⟩ := Kd.R_slice HO114.out
                subst eo20
                go_wp2
                go_meet
                case rel => exact ⟨_, (true), (by first | rfl | (simp; done) | (simp [*]; done)), H', ⟨by have := HK1.out; first | omega | exact Nat.le_refl _⟩, ⟨by (with_reducible repeat (first | apply Kd.R_alloc | apply Kd.R_drewN | apply Kd.R_drew)); exact Kd.R_mono HO_8.out (fun _ hk => hk.2)⟩, ⟨by (with_reducible repeat (first | apply Kd.R_alloc | apply Kd.R_drewN | apply Kd.R_drew)); exact Kd.R_mono HO114.out (fun _ hk => hk.2)⟩, ⟨by repeat (first | (with_reducible first | exact HB.out | apply below_alloc | apply pw_below_drewN | apply below_drew1) | exact HB.out)⟩⟩
              · rw [if_neg c19] at H
                have c19b0 : ((t112.length : Int) == 0) = false := beq_eq_false_iff_ne.mpr c19
                have c19b1 : ((t112.length : Int) != 0) = true := bne_iff_ne.mpr c19
                have c19b2 : ¬ (t112 = []) := fun h_ => c19 (by rw [h_]; rfl)
                (first | rw [c19b0] | (simp only [i64_w, i32_w]; rw [c19b0]) | skip)
                have H' := Aside0.mk H
                clear H
                obtain ⟨Ao21, co21, eo21⟩ := Kd.R_slice HO114.out
                subst eo21
                go_wp2
                go_meet
                case rel => exact ⟨_, (decide ((t112.length : Int) > (x8_1.length : Int))), (by first | rfl | (simp; done) | (simp [*]; done)), H', ⟨by have := HK1.out; first | omega | exact Nat.le_refl _⟩, ⟨by (with_reducible repeat (first | apply Kd.R_alloc | apply Kd.R_drewN | apply Kd.R_drew)); exact Kd.R_mono HO_8.out (fun _ hk => hk.2)⟩, ⟨by (with_reducible repeat (first | apply Kd.R_alloc | apply Kd.R_drewN | apply Kd.R_drew)); exact Kd.R_mono HO114.out (fun _ hk => hk.2)⟩, ⟨by repeat (first | (with_reducible first | exact HB.out | apply below_alloc | apply pw_below_drewN | apply below_drew1) | exact HB.out)⟩⟩
            case rest =>
              clear HC15
              try clear c1
              try clear q1
              try clear c2
              try clear p2
              try clear p6
              try clear c8
              try clear c8b0
              try clear c9
              try clear c10
              try clear c12
              try clear c12b0
              try clear c12b1
              try clear c13
              try clear c13b0
              try clear c13b1
              try clear c16
              try clear q16
              try clear c19
              try clear c19b0
              try clear c19b1
              try clear c19b2
              try clear c20
              try clear p2
              try clear q16
              obtain ⟨kq, x51_14, rfl, HA, HJ14, HO_8, HO_11, HB⟩ := hcut
              cases kq with
              | zero => exact absurd HA.out (by simp [epitomelaw19_SeekKept.j1])
              | succ kj14 =>
                have H := HA.out
                clear HA
                simp only [epitomelaw19_SeekKept.j1] at H
                by_cases c22 : x51_14 = true
                · subst c22
                  have H1 : (some false) = some r := by rw [if_pos rfl] at H; exact H
                  clear H
                  have H := H1
                  clear H1
                  obtain rfl := Option.some.inj H
                  go_wp2
                  go_ret
                  exact ⟨by first | rfl | (simp [errW_none, errW_some] <;> rfl) | (simp only [← hji11]; first | rfl | (simp [errW_none, errW_some] <;> rfl)) | (simp [*, errW_none, errW_some] <;> rfl), by repeat (first | (with_reducible first | exact HB.out | apply below_alloc | apply pw_below_drewN | apply below_drew1) | exact HB.out)⟩
                · replace c22 := Bool.eq_false_iff.mpr c22
                  subst c22
                  have H1 : (epitomelaw19_SeekKept.l1 kj14 t101 x8_1 y108 t112 (-1)) = some r := by rw [if_neg (show ¬ (false = true) by decide)] at H; exact H
                  clear H
                  have H := H1
                  clear H1
                  have H' := Aside0.mk H
                  clear H
                  go_wp2
                  go_loopg [12] kj14 (fun kq v12 w' => ∃ (x12_3 : Int), v12 = .int .i64 x12_3 ∧ Aside0 (epitomelaw19_SeekKept.l1 kq t101 x8_1 y108 t112 x12_3 = some r) ∧ Aside0 (kq ≤ kj14) ∧ Aside0 (Kd.R (Kd.int .i64) 3 w' w.heap.size (fun k_ => some k_ ≠ (v113 : Value).ownBlock) (.slice Ao17 x8_1.length co17) x8_1) ∧ Aside0 (Kd.R (Kd.int .i64) 3 w' w.heap.size (fun k_ => some k_ ≠ ((.slice Ao17 x8_1.length co17) : Value).ownBlock) v113 t112) ∧ Aside0 (Below w.heap.size w w'))
                  case atStart => exact ⟨((-1)), (by first | rfl | (simp; done) | (simp [*]; done)), H', ⟨Nat.le_refl _⟩, ⟨by (with_reducible repeat (first | apply Kd.R_alloc | apply Kd.R_drewN | apply Kd.R_drew)); exact HO_8.out⟩, ⟨by (with_reducible repeat (first | apply Kd.R_alloc | apply Kd.R_drewN | apply Kd.R_drew)); exact HO_11.out⟩, ⟨by repeat (first | (with_reducible first | exact HB.out | apply below_alloc | apply pw_below_drewN | apply below_drew1) | exact HB.out)⟩⟩
                  case round =>
                    clear H'
                    try clear c1
                    try clear q1
                    try clear c2
                    try clear p2
                    try clear p6
                    try clear c8
                    try clear c8b0
                    try clear c9
                    try clear c10
                    try clear c12
                    try clear c12b0
                    try clear c12b1
                    try clear c13
                    try clear c13b0
                    try clear c13b1
                    try clear c16
                    try clear q16
                    try clear c19
                    try clear c19b0
                    try clear c19b1
                    try clear c19b2
                    try clear c20
                    try clear c22
                    try clear p2
                    try clear p6
                    try clear q1
                    try clear q16
                    obtain ⟨x12_3, rfl, HA, HK3, HO_8, HO_11, HB⟩ := hrel
                    cases gk with
                    | zero => exact absurd HA.out (by simp [epitomelaw19_SeekKept.l1])
                    | succ k3 =>
                      have H := HA.out
                      clear HA
                      simp only [epitomelaw19_SeekKept.l1] at H
                      by_cases c23 : x12_3 ≤ (x8_1.length : Int)
                      · rw [if_pos c23] at H
                        have c23b0 : decide (x12_3 ≤ (x8_1.length : Int)) = true := decide_eq_true c23
                        clear c23
                        replace H := Option.bind_eq_some_iff.mp H
                        obtain ⟨⟨t115, t116, t117⟩, A240, H⟩ := H
                        replace H : (if 0 < (t112.length : Int) then (if x12_3 = (rd t112 0) then (epitomelaw19_SeekKept.j3 k3 t101 x8_1 y108 t112 x12_3 t115 t116 t117 true) else (epitomelaw19_SeekKept.j3 k3 t101 x8_1 y108 t112 x12_3 t115 t116 t117 (x12_3 == (wrap64 ((x8_1.length : Int) - 1))))) else (none)) = some r := H
                        have A24 := Aside0.mk A240
                        clear A240
                        have HC25 := Aside0.mk H
                        clear H
                        obtain ⟨Ao26, co26, eo26⟩ := Kd.R_slice HO_11.out
                        subst eo26
                        go_upto_region 15 with (first | ((with_reducible refine gate_callee (f := 21) rfl ?_); refine goesL_ (some 61) rfl rfl Try.func21 (by kernel_rfl) rfl #[.slice Ao26 t112.length co26, .int .i64 x12_3] rfl (by (try simp only [List.map_toArray, List.map_cons, List.map_nil]); first | done | rfl | (simp only [List.length_drop, List.length_take]; rfl)) ?_; (with_reducible refine (seek_Find.calls _ _ t112 x12_3 t115 t116 t117 _ ?side1 ?side2 A24.out).mono ?_); (case side1 => repeat (first | exact (Kd.R_reads' HO_11.out).2.2 | (with_reducible refine Kd.C_alloc ?_ _) | (with_reducible refine Kd.C_drewN ?_ _) | (with_reducible refine Kd.C_drew ?_))); (case side2 => exact (Kd.R_reads' HO_11.out).2.1); rintro e w27 ⟨rfl, hb⟩; refine ⟨_, rfl, ?_⟩; have n0_ := Aside0.mk (Kd.R_below (by (with_reducible repeat (first | apply Kd.R_alloc | apply Kd.R_drewN | apply Kd.R_drew)); exact HO_8.out) hb); have n1_ := Aside0.mk (Kd.R_below (by (with_reducible repeat (first | apply Kd.R_alloc | apply Kd.R_drewN | apply Kd.R_drew)); exact HO_11.out) hb); have n2_ := Aside0.mk (below_step (by repeat (first | (with_reducible first | exact HB.out | apply below_alloc | apply pw_below_drewN | apply below_drew1) | exact HB.out)) hb); clear HO_8; clear HO_11; clear HB; have HO_8 := n0_; have HO_11 := n1_; have HB := n2_; clear n0_ n1_ n2_; (try clear hb); (try clear hb2); (try clear hk); (try clear hi)))
                        (try simp only [Act.put, List.setIfInBounds_toArray, List.set_cons_zero, List.set_cons_succ])
                        go_cut [16] (fun v16 wc => ∃ (kq : Nat) (x16_24 : Bool), v16 = .bool x16_24 ∧ Aside0 (epitomelaw19_SeekKept.j3 kq t101 x8_1 y108 t112 x12_3 t115 t116 t117 x16_24 = some r) ∧ Aside0 (kq ≤ k3) ∧ Aside0 (Kd.R (Kd.int .i64) 3 wc w.heap.size (fun k_ => some k_ ≠ ((.slice Ao26 t112.length co26) : Value).ownBlock) (.slice Ao17 x8_1.length co17) x8_1) ∧ Aside0 (Kd.R (Kd.int .i64) 3 wc w.heap.size (fun k_ => some k_ ≠ ((.slice Ao17 x8_1.length co17) : Value).ownBlock) (.slice Ao26 t112.length co26) t112) ∧ Aside0 (Below w.heap.size w wc))
                        case first =>
                          have H := HC25.out
                          clear HC25
                          by_cases c28 : 0 < (t112.length : Int)
                          · rw [if_pos c28] at H
                            have c28b0 : decide (0 < (t112.length : Int)) = true := decide_eq_true c28
                            have c28b1 : decide (0 < t112.length) = true := decide_eq_true (by omega)
                            clear c28
                            (first | rw [c28b0] | (simp only [i64_w, i32_w]; rw [c28b0]) | skip)
                            by_cases c29 : x12_3 = (rd t112 0)
                            · rw [if_pos c29] at H
                              have c29b0 : (x12_3 == (rd t112 0)) = true := beq_iff_eq.mpr c29
                              have c29b1 : (x12_3 != (rd t112 0)) = false := bne_eq_false_iff_eq.mpr c29
                              clear c29
                              have H' := Aside0.mk H
                              clear H
                              have p118 : 0 ≤ (0 : Int) := (by omega)
                              have q118 : 0 < (t112.length : Int) := of_decide_eq_true (by first | (with_reducible assumption) | assumption)
                              obtain ⟨ad118, e118, hx118_0⟩ := Kd.at_int (Kd.R_reads' HO_11.out).2.2 0 p118 q118
                              cases e118
                              have qi118 : (0 < t112.length) = True := eq_true (by omega)
                              (try rw [show ((0 : Int)).toNat = 0 from rfl] at hx118_0)
                              (try rw [Addr.add_zero'] at hx118_0)
                              replace p118 := eq_true p118
                              replace q118 := eq_true q118
                              go_wp2
                              go_meet
                              case rel => exact ⟨_, (true), (by first | rfl | (simp; done) | (simp [*]; done)), H', ⟨by have := HK1.out; have := HJ14.out; have := HK3.out; first | omega | exact Nat.le_refl _⟩, ⟨by (with_reducible repeat (first | apply Kd.R_alloc | apply Kd.R_drewN | apply Kd.R_drew)); exact HO_8.out⟩, ⟨by (with_reducible repeat (first | apply Kd.R_alloc | apply Kd.R_drewN | apply Kd.R_drew)); exact HO_11.out⟩, ⟨by repeat (first | (with_reducible first | exact HB.out | apply below_alloc | apply pw_below_drewN | apply below_drew1) | exact HB.out)⟩⟩
                            · rw [if_neg c29] at H
                              have c29b0 : (x12_3 == (rd t112 0)) = false := beq_eq_false_iff_ne.mpr c29
                              have c29b1 : (x12_3 != (rd t112 0)) = true := bne_iff_ne.mpr c29
                              have H' := Aside0.mk H
                              clear H
                              have p118 : 0 ≤ (0 : Int) := (by omega)
                              have q118 : 0 < (t112.length : Int) := of_decide_eq_true (by first | (with_reducible assumption) | assumption)
                              obtain ⟨ad118, e118, hx118_0⟩ := Kd.at_int (Kd.R_reads' HO_11.out).2.2 0 p118 q118
                              cases e118
                              have qi118 : (0 < t112.length) = True := eq_true (by omega)
                              (try rw [show ((0 : Int)).toNat = 0 from rfl] at hx118_0)
                              (try rw [Addr.add_zero'] at hx118_0)
                              replace p118 := eq_true p118
                              replace q118 := eq_true q118
                              go_wp2
                              go_meet
                              case rel => exact ⟨_, ((x12_3 == (wrap64 ((x8_1.length : Int) - 1)))), (by first | rfl | (simp; done) | (simp [*]; done)), H', ⟨by have := HK1.out; have := HJ14.out; have := HK3.out; first | omega | exact Nat.le_refl _⟩, ⟨by (with_reducible repeat (first | apply Kd.R_alloc | apply Kd.R_drewN | apply Kd.R_drew)); exact HO_8.out⟩, ⟨by (with_reducible repeat (first | apply Kd.R_alloc | apply Kd.R_drewN | apply Kd.R_drew)); exact HO_11.out⟩, ⟨by repeat (first | (with_reducible first | exact HB.out | apply below_alloc | apply pw_below_drewN | apply below_drew1) | exact HB.out)⟩⟩
                          · rw [if_neg c28] at H
                            exact absurd H (by simp)
                        case rest =>
                          clear HC25
                          try clear c1
                          try clear p1
                          try clear q1
                          try clear hx1
                          try clear qi1
                          try clear c2
                          try clear p2
                          try clear p6
                          try clear c8
                          try clear c8b0
                          try clear c9
                          try clear c10
                          try clear p11
                          try clear q11
                          try clear hx11
                          try clear qi11
                          try clear c12
                          try clear c12b0
                          try clear c12b1
                          try clear c13
                          try clear c13b0
                          try clear c13b1
                          try clear c16
                          try clear q16
                          try clear c19
                          try clear c19b0
                          try clear c19b1
                          try clear c19b2
                          try clear c20
                          try clear c21
                          try clear c22
                          try clear c23
                          try clear c23b0
                          try clear c28
                          try clear c28b0
                          try clear c28b1
                          try clear c29
                          try clear c29b0
                          try clear c29b1
                          try clear hx118_0
                          try clear p118
                          try clear p2
                          try clear p6
                          try clear q1
                          try clear q118
                          try clear q16
                          obtain ⟨kq, x16_24, rfl, HA, HJ24, HO_8, HO_11, HB⟩ := hcut
                          cases kq with
                          | zero => exact absurd HA.out (by simp [epitomelaw19_SeekKept.j3])
                          | succ kj24 =>
                            have H := HA.out
                            clear HA
                            simp only [epitomelaw19_SeekKept.j3] at H
                            have H' := Aside0.mk H
                            clear H
                            go_wp2
                            go_loopg [16, 17] kj24 (fun kq v16 v17 w' => ∃ (x16_5 : Bool) (x17_5 : Int), v16 = .bool x16_5 ∧ v17 = .int .i64 x17_5 ∧ Aside0 (epitomelaw19_SeekKept.l2 kq t101 x8_1 y108 t112 x12_3 t115 t116 t117 x16_5 x17_5 = some r) ∧ Aside0 (kq ≤ kj24) ∧ Aside0 (Kd.R (Kd.int .i64) 3 w' w.heap.size (fun k_ => some k_ ≠ ((.slice Ao26 t112.length co26) : Value).ownBlock) (.slice Ao17 x8_1.length co17) x8_1) ∧ Aside0 (Kd.R (Kd.int .i64) 3 w' w.heap.size (fun k_ => some k_ ≠ ((.slice Ao17 x8_1.length co17) : Value).ownBlock) (.slice Ao26 t112.length co26) t112) ∧ Aside0 (Below w.heap.size w w'))
                            case atStart => exact ⟨(x16_24), (0), (by first | rfl | (simp; done) | (simp [*]; done)), (by first | rfl | (simp; done) | (simp [*]; done)), H', ⟨Nat.le_refl _⟩, ⟨by (with_reducible repeat (first | apply Kd.R_alloc | apply Kd.R_drewN | apply Kd.R_drew)); exact HO_8.out⟩, ⟨by (with_reducible repeat (first | apply Kd.R_alloc | apply Kd.R_drewN | apply Kd.R_drew)); exact HO_11.out⟩, ⟨by repeat (first | (with_reducible first | exact HB.out | apply below_alloc | apply pw_below_drewN | apply below_drew1) | exact HB.out)⟩⟩
                            case round =>
                              clear H'
                              try clear c1
                              try clear p1
                              try clear q1
                              try clear hx1
                              try clear qi1
                              try clear c2
                              try clear p2
                              try clear p6
                              try clear c8
                              try clear c8b0
                              try clear c9
                              try clear c10
                              try clear p11
                              try clear q11
                              try clear hx11
                              try clear qi11
                              try clear c12
                              try clear c12b0
                              try clear c12b1
                              try clear c13
                              try clear c13b0
                              try clear c13b1
                              try clear c16
                              try clear q16
                              try clear c19
                              try clear c19b0
                              try clear c19b1
                              try clear c19b2
                              try clear c20
                              try clear c21
                              try clear c22
                              try clear c23
                              try clear c23b0
                              try clear c28
                              try clear c28b0
                              try clear c28b1
                              try clear c29
                              try clear c29b0
                              try clear c29b1
                              try clear hx118_0
                              try clear p1
                              try clear p11
                              try clear p118
                              try clear p2
                              try clear p6
                              try clear q1
                              try clear q11
                              try clear q118
                              try clear q16
                              obtain ⟨x16_5, x17_5, rfl, rfl, HA, HK5, HO_8, HO_11, HB⟩ := hrel
                              cases gk with
                              | zero => exact absurd HA.out (by simp [epitomelaw19_SeekKept.l2])
                              | succ k5 =>
                                have H := HA.out
                                clear HA
                                simp only [epitomelaw19_SeekKept.l2] at H
                                by_cases c30 : x17_5 < (y108.length : Int)
                                · rw [if_pos c30] at H
                                  have c30b0 : decide (x17_5 < (y108.length : Int)) = true := decide_eq_true c30
                                  clear c30
                                  by_cases c31 : x16_5 = true
                                  · subst c31
                                    have H1 : (epitomelaw19_SeekKept.l2 k5 t101 x8_1 y108 t112 x12_3 t115 t116 t117 true (wrap64 (x17_5 + 1))) = some r := by rw [if_pos rfl] at H; exact H
                                    clear H
                                    have H := H1
                                    clear H1
                                    have H' := Aside0.mk H
                                    clear H
                                    go_wp2
                                    go_roundg k5
                                    case measure => have := HK1.out; have := HJ14.out; have := HK3.out; have := HJ24.out; have := HK5.out; omega
                                    case rel => exact ⟨(true), (wrap64 (x17_5 + 1)), (by first | rfl | (simp; done) | (simp [*]; done)), (by first | rfl | (simp; done) | (simp [*]; done)), H', ⟨by have := HK1.out; have := HJ14.out; have := HK3.out; have := HJ24.out; have := HK5.out; omega⟩, ⟨by (with_reducible repeat (first | apply Kd.R_alloc | apply Kd.R_drewN | apply Kd.R_drew)); exact HO_8.out⟩, ⟨by (with_reducible repeat (first | apply Kd.R_alloc | apply Kd.R_drewN | apply Kd.R_drew)); exact HO_11.out⟩, ⟨by repeat (first | (with_reducible first | exact HB.out | apply below_alloc | apply pw_below_drewN | apply below_drew1) | exact HB.out)⟩⟩
                                  · replace c31 := Bool.eq_false_iff.mpr c31
                                    subst c31
                                    have H1 : (if 0 ≤ x17_5 then (if (rd y108 x17_5) = x12_3 then (if 0 < (t112.length : Int) then (epitomelaw19_SeekKept.l2 k5 t101 x8_1 y108 t112 x12_3 t115 t116 t117 (decide (x12_3 > (rd t112 0))) (wrap64 (x17_5 + 1))) else (none)) else (epitomelaw19_SeekKept.l2 k5 t101 x8_1 y108 t112 x12_3 t115 t116 t117 false (wrap64 (x17_5 + 1)))) else (none)) = some r := by rw [if_neg (show ¬ (false = true) by decide)] at H; exact H
                                    clear H
                                    have H := H1
                                    clear H1
                                    by_cases c32 : 0 ≤ x17_5
                                    · rw [if_pos c32] at H
                                      have c32b0 : decide (0 ≤ x17_5) = true := decide_eq_true c32
                                      clear c32
                                      by_cases c33 : (rd y108 x17_5) = x12_3
                                      · rw [if_pos c33] at H
                                        have c33b0 : ((rd y108 x17_5) == x12_3) = true := beq_iff_eq.mpr c33
                                        have c33b1 : ((rd y108 x17_5) != x12_3) = false := bne_eq_false_iff_eq.mpr c33
                                        clear c33
                                        by_cases c34 : 0 < (t112.length : Int)
                                        · rw [if_pos c34] at H
                                          have c34b0 : decide (0 < (t112.length : Int)) = true := decide_eq_true c34
                                          have c34b1 : decide (0 < t112.length) = true := decide_eq_true (by omega)
                                          clear c34
                                          have H' := Aside0.mk H
                                          clear H
                                          have p119 : 0 ≤ (x17_5 : Int) := of_decide_eq_true (by first | (with_reducible assumption) | assumption)
                                          have q119 : x17_5 < (y108.length : Int) := of_decide_eq_true (by first | (with_reducible assumption) | assumption)
                                          obtain ⟨ad119, e119, hx119_0⟩ := Kd.at_int HR111.out x17_5 p119 q119
                                          cases e119
                                          replace hx119_0 := (HB.out.cell (World.block_lt_of_cell? w _ hx119_0)).trans hx119_0
                                          replace p119 := eq_true p119
                                          replace q119 := eq_true q119
                                          have p120 : 0 ≤ (0 : Int) := (by omega)
                                          have q120 : 0 < (t112.length : Int) := of_decide_eq_true (by first | (with_reducible assumption) | assumption)
                                          obtain ⟨ad120, e120, hx120_0⟩ := Kd.at_int (Kd.R_reads' HO_11.out).2.2 0 p120 q120
                                          cases e120
                                          have qi120 : (0 < t112.length) = True := eq_true (by omega)
                                          (try rw [show ((0 : Int)).toNat = 0 from rfl] at hx120_0)
                                          (try rw [Addr.add_zero'] at hx120_0)
                                          replace p120 := eq_true p120
                                          replace q120 := eq_true q120
                                          go_wp2
                                          go_roundg k5
                                          case measure => have := HK1.out; have := HJ14.out; have := HK3.out; have := HJ24.out; have := HK5.out; omega
                                          case rel => exact ⟨(decide (x12_3 > (rd t112 0))), (wrap64 (x17_5 + 1)), (by first | rfl | (simp; done) | (simp [*]; done)), (by first | rfl | (simp; done) | (simp [*]; done)), H', ⟨by have := HK1.out; have := HJ14.out; have := HK3.out; have := HJ24.out; have := HK5.out; omega⟩, ⟨by (with_reducible repeat (first | apply Kd.R_alloc | apply Kd.R_drewN | apply Kd.R_drew)); exact HO_8.out⟩, ⟨by (with_reducible repeat (first | apply Kd.R_alloc | apply Kd.R_drewN | apply Kd.R_drew)); exact HO_11.out⟩, ⟨by repeat (first | (with_reducible first | exact HB.out | apply below_alloc | apply pw_below_drewN | apply below_drew1) | exact HB.out)⟩⟩
                                        · rw [if_neg c34] at H
                                          exact absurd H (by simp)
                                      · rw [if_neg c33] at H
                                        have c33b0 : ((rd y108 x17_5) == x12_3) = false := beq_eq_false_iff_ne.mpr c33
                                        have c33b1 : ((rd y108 x17_5) != x12_3) = true := bne_iff_ne.mpr c33
                                        have H' := Aside0.mk H
                                        clear H
                                        have p119 : 0 ≤ (x17_5 : Int) := of_decide_eq_true (by first | (with_reducible assumption) | assumption)
                                        have q119 : x17_5 < (y108.length : Int) := of_decide_eq_true (by first | (with_reducible assumption) | assumption)
                                        obtain ⟨ad119, e119, hx119_0⟩ := Kd.at_int HR111.out x17_5 p119 q119
                                        cases e119
                                        replace hx119_0 := (HB.out.cell (World.block_lt_of_cell? w _ hx119_0)).trans hx119_0
                                        replace p119 := eq_true p119
                                        replace q119 := eq_true q119
                                        go_wp2
                                        go_roundg k5
                                        case measure => have := HK1.out; have := HJ14.out; have := HK3.out; have := HJ24.out; have := HK5.out; omega
                                        case rel => exact ⟨(false), (wrap64 (x17_5 + 1)), (by first | rfl | (simp; done) | (simp [*]; done)), (by first | rfl | (simp; done) | (simp [*]; done)), H', ⟨by have := HK1.out; have := HJ14.out; have := HK3.out; have := HJ24.out; have := HK5.out; omega⟩, ⟨by (with_reducible repeat (first | apply Kd.R_alloc | apply Kd.R_drewN | apply Kd.R_drew)); exact HO_8.out⟩, ⟨by (with_reducible repeat (first | apply Kd.R_alloc | apply Kd.R_drewN | apply Kd.R_drew)); exact HO_11.out⟩, ⟨by repeat (first | (with_reducible first | exact HB.out | apply below_alloc | apply pw_below_drewN | apply below_drew1) | exact HB.out)⟩⟩
                                    · rw [if_neg c32] at H
                                      exact absurd H (by simp)
                                · rw [if_neg c30] at H
                                  have c30b0 : decide (x17_5 < (y108.length : Int)) = false := decide_eq_false c30
                                  clear c30
                                  have HC35 := Aside0.mk H
                                  clear H
                                  go_upto_if 99 with (fail)
                                  go_cut [18] (fun v18 wc => ∃ (kq : Nat) (x18_34 : Int), v18 = .int .i64 x18_34 ∧ Aside0 (epitomelaw19_SeekKept.j5 kq t101 x8_1 y108 t112 x12_3 t115 t116 t117 x18_34 = some r) ∧ Aside0 (kq ≤ k5) ∧ Aside0 (Kd.R (Kd.int .i64) 3 wc w.heap.size (fun k_ => some k_ ≠ ((.slice Ao26 t112.length co26) : Value).ownBlock) (.slice Ao17 x8_1.length co17) x8_1) ∧ Aside0 (Kd.R (Kd.int .i64) 3 wc w.heap.size (fun k_ => some k_ ≠ ((.slice Ao17 x8_1.length co17) : Value).ownBlock) (.slice Ao26 t112.length co26) t112) ∧ Aside0 (Below w.heap.size w wc))
                                  case first =>
                                    have H := HC35.out
                                    clear HC35
                                    by_cases c36 : x16_5 = true
                                    · subst c36
                                      have H1 : (epitomelaw19_SeekKept.j5 k5 t101 x8_1 y108 t112 x12_3 t115 t116 t117 0) = some r := by rw [if_pos rfl] at H; exact H
                                      clear H
                                      have H := H1
                                      clear H1
                                      have H' := Aside0.mk H
                                      clear H
                                      go_wp2
                                      go_meet
                                      case rel => exact ⟨_, (0), (by first | rfl | (simp; done) | (simp [*]; done)), H', ⟨by have := HK1.out; have := HJ14.out; have := HK3.out; have := HJ24.out; have := HK5.out; first | omega | exact Nat.le_refl _⟩, ⟨by (with_reducible repeat (first | apply Kd.R_alloc | apply Kd.R_drewN | apply Kd.R_drew)); exact HO_8.out⟩, ⟨by (with_reducible repeat (first | apply Kd.R_alloc | apply Kd.R_drewN | apply Kd.R_drew)); exact HO_11.out⟩, ⟨by repeat (first | (with_reducible first | exact HB.out | apply below_alloc | apply pw_below_drewN | apply below_drew1) | exact HB.out)⟩⟩
                                    · replace c36 := Bool.eq_false_iff.mpr c36
                                      subst c36
                                      have H1 : (epitomelaw19_SeekKept.j5 k5 t101 x8_1 y108 t112 x12_3 t115 t116 t117 10) = some r := by rw [if_neg (show ¬ (false = true) by decide)] at H; exact H
                                      clear H
                                      have H := H1
                                      clear H1
                                      have H' := Aside0.mk H
                                      clear H
                                      go_wp2
                                      go_meet
                                      case rel => exact ⟨_, (10), (by first | rfl | (simp; done) | (simp [*]; done)), H', ⟨by have := HK1.out; have := HJ14.out; have := HK3.out; have := HJ24.out; have := HK5.out; first | omega | exact Nat.le_refl _⟩, ⟨by (with_reducible repeat (first | apply Kd.R_alloc | apply Kd.R_drewN | apply Kd.R_drew)); exact HO_8.out⟩, ⟨by (with_reducible repeat (first | apply Kd.R_alloc | apply Kd.R_drewN | apply Kd.R_drew)); exact HO_11.out⟩, ⟨by repeat (first | (with_reducible first | exact HB.out | apply below_alloc | apply pw_below_drewN | apply below_drew1) | exact HB.out)⟩⟩
                                  case rest =>
                                    clear HC35
                                    try clear c1
                                    try clear p1
                                    try clear q1
                                    try clear hx1
                                    try clear qi1
                                    try clear c2
                                    try clear p2
                                    try clear c3
                                    try clear p6
                                    try clear c8
                                    try clear c8b0
                                    try clear c9
                                    try clear c10
                                    try clear p11
                                    try clear q11
                                    try clear hx11
                                    try clear qi11
                                    try clear c12
                                    try clear c12b0
                                    try clear c12b1
                                    try clear p12
                                    try clear q12
                                    try clear hx12
                                    try clear qi12
                                    try clear c13
                                    try clear c13b0
                                    try clear c13b1
                                    try clear c16
                                    try clear q16
                                    try clear c19
                                    try clear c19b0
                                    try clear c19b1
                                    try clear c19b2
                                    try clear c20
                                    try clear c21
                                    try clear c22
                                    try clear c23
                                    try clear c23b0
                                    try clear c28
                                    try clear c28b0
                                    try clear c28b1
                                    try clear c29
                                    try clear c29b0
                                    try clear c29b1
                                    try clear c30
                                    try clear c30b0
                                    try clear c31
                                    try clear c32
                                    try clear c32b0
                                    try clear c33
                                    try clear c33b0
                                    try clear c33b1
                                    try clear c34
                                    try clear c34b0
                                    try clear c34b1
                                    try clear c36
                                    try clear hx118_0
                                    try clear hx119_0
                                    try clear hx120_0
                                    try clear p1
                                    try clear p11
                                    try clear p118
                                    try clear p119
                                    try clear p120
                                    try clear p2
                                    try clear p6
                                    try clear q1
                                    try clear q11
                                    try clear q118
                                    try clear q119
                                    try clear q120
                                    try clear q16
                                    obtain ⟨kq, x18_34, rfl, HA, HJ34, HO_8, HO_11, HB⟩ := hcut
                                    cases kq with
                                    | zero => exact absurd HA.out (by simp [epitomelaw19_SeekKept.j5])
                                    | succ kj34 =>
                                      have H := HA.out
                                      clear HA
                                      simp only [epitomelaw19_SeekKept.j5] at H
                                      have HC37 := Aside0.mk H
                                      clear H
                                      go_upto_if 103 with (fail)
                                      go_cut [18] (fun v18 wc => ∃ (kq : Nat) (x18_36 : Int), v18 = .int .i64 x18_36 ∧ Aside0 (epitomelaw19_SeekKept.j6 kq t101 x8_1 y108 t112 x12_3 t115 t116 t117 x18_36 = some r) ∧ Aside0 (kq ≤ kj34) ∧ Aside0 (Kd.R (Kd.int .i64) 3 wc w.heap.size (fun k_ => some k_ ≠ ((.slice Ao26 t112.length co26) : Value).ownBlock) (.slice Ao17 x8_1.length co17) x8_1) ∧ Aside0 (Kd.R (Kd.int .i64) 3 wc w.heap.size (fun k_ => some k_ ≠ ((.slice Ao17 x8_1.length co17) : Value).ownBlock) (.slice Ao26 t112.length co26) t112) ∧ Aside0 (Below w.heap.size w wc))
                                      case first =>
                                        have H := HC37.out
                                        clear HC37
                                        by_cases c38 : x12_3 ≥ (x8_1.length : Int)
                                        · rw [if_pos c38] at H
                                          have c38b0 : decide ((x8_1.length : Int) ≤ x12_3) = true := decide_eq_true c38
                                          clear c38
                                          (first | rw [c38b0] | (simp only [i64_w, i32_w]; rw [c38b0]) | skip)
                                          have H' := Aside0.mk H
                                          clear H
                                          go_wp2
                                          go_meet
                                          case rel => exact ⟨_, (6), (by first | rfl | (simp; done) | (simp [*]; done)), H', ⟨by have := HK1.out; have := HJ14.out; have := HK3.out; have := HJ24.out; have := HK5.out; have := HJ34.out; first | omega | exact Nat.le_refl _⟩, ⟨by (with_reducible repeat (first | apply Kd.R_alloc | apply Kd.R_drewN | apply Kd.R_drew)); exact HO_8.out⟩, ⟨by (with_reducible repeat (first | apply Kd.R_alloc | apply Kd.R_drewN | apply Kd.R_drew)); exact HO_11.out⟩, ⟨by repeat (first | (with_reducible first | exact HB.out | apply below_alloc | apply pw_below_drewN | apply below_drew1) | exact HB.out)⟩⟩
                                        · rw [if_neg c38] at H
                                          have c38b0 : decide ((x8_1.length : Int) ≤ x12_3) = false := decide_eq_false c38
                                          clear c38
                                          (first | rw [c38b0] | (simp only [i64_w, i32_w]; rw [c38b0]) | skip)
                                          by_cases c39 : 0 < (t112.length : Int)
                                          · rw [if_pos c39] at H
                                            have c39b0 : decide (0 < (t112.length : Int)) = true := decide_eq_true c39
                                            have c39b1 : decide (0 < t112.length) = true := decide_eq_true (by omega)
                                            clear c39
                                            by_cases c40 : x12_3 < (rd t112 0)
                                            · rw [if_pos c40] at H
                                              have c40b0 : decide (x12_3 < (rd t112 0)) = true := decide_eq_true c40
                                              clear c40
                                              have H' := Aside0.mk H
                                              clear H
                                              have p121 : 0 ≤ (0 : Int) := (by omega)
                                              have q121 : 0 < (t112.length : Int) := of_decide_eq_true (by first | (with_reducible assumption) | assumption)
                                              obtain ⟨ad121, e121, hx121_0⟩ := Kd.at_int (Kd.R_reads' HO_11.out).2.2 0 p121 q121
                                              cases e121
                                              have qi121 : (0 < t112.length) = True := eq_true (by omega)
                                              (try rw [show ((0 : Int)).toNat = 0 from rfl] at hx121_0)
                                              (try rw [Addr.add_zero'] at hx121_0)
                                              replace p121 := eq_true p121
                                              replace q121 := eq_true q121
                                              go_wp2
                                              go_meet
                                              case rel => exact ⟨_, (11), (by first | rfl | (simp; done) | (simp [*]; done)), H', ⟨by have := HK1.out; have := HJ14.out; have := HK3.out; have := HJ24.out; have := HK5.out; have := HJ34.out; first | omega | exact Nat.le_refl _⟩, ⟨by (with_reducible repeat (first | apply Kd.R_alloc | apply Kd.R_drewN | apply Kd.R_drew)); exact HO_8.out⟩, ⟨by (with_reducible repeat (first | apply Kd.R_alloc | apply Kd.R_drewN | apply Kd.R_drew)); exact HO_11.out⟩, ⟨by repeat (first | (with_reducible first | exact HB.out | apply below_alloc | apply pw_below_drewN | apply below_drew1) | exact HB.out)⟩⟩
                                            · rw [if_neg c40] at H
                                              have c40b0 : decide (x12_3 < (rd t112 0)) = false := decide_eq_false c40
                                              clear c40
                                              have H' := Aside0.mk H
                                              clear H
                                              have p121 : 0 ≤ (0 : Int) := (by omega)
                                              have q121 : 0 < (t112.length : Int) := of_decide_eq_true (by first | (with_reducible assumption) | assumption)
                                              obtain ⟨ad121, e121, hx121_0⟩ := Kd.at_int (Kd.R_reads' HO_11.out).2.2 0 p121 q121
                                              cases e121
                                              have qi121 : (0 < t112.length) = True := eq_true (by omega)
                                              (try rw [show ((0 : Int)).toNat = 0 from rfl] at hx121_0)
                                              (try rw [Addr.add_zero'] at hx121_0)
                                              replace p121 := eq_true p121
                                              replace q121 := eq_true q121
                                              go_wp2
                                              go_meet
                                              case rel => exact ⟨_, (x18_34), (by first | rfl | (simp; done) | (simp [*]; done)), H', ⟨by have := HK1.out; have := HJ14.out; have := HK3.out; have := HJ24.out; have := HK5.out; have := HJ34.out; first | omega | exact Nat.le_refl _⟩, ⟨by (with_reducible repeat (first | apply Kd.R_alloc | apply Kd.R_drewN | apply Kd.R_drew)); exact HO_8.out⟩, ⟨by (with_reducible repeat (first | apply Kd.R_alloc | apply Kd.R_drewN | apply Kd.R_drew)); exact HO_11.out⟩, ⟨by repeat (first | (with_reducible first | exact HB.out | apply below_alloc | apply pw_below_drewN | apply below_drew1) | exact HB.out)⟩⟩
                                          · rw [if_neg c39] at H
                                            exact absurd H (by simp)
                                      case rest =>
                                        clear HC37
                                        try clear c1
                                        try clear p1
                                        try clear q1
                                        try clear hx1
                                        try clear qi1
                                        try clear c2
                                        try clear p2
                                        try clear c3
                                        try clear c4
                                        try clear p6
                                        try clear c8
                                        try clear c8b0
                                        try clear c9
                                        try clear c10
                                        try clear p11
                                        try clear q11
                                        try clear hx11
                                        try clear qi11
                                        try clear c12
                                        try clear c12b0
                                        try clear c12b1
                                        try clear p12
                                        try clear q12
                                        try clear hx12
                                        try clear qi12
                                        try clear c13
                                        try clear c13b0
                                        try clear c13b1
                                        try clear c16
                                        try clear q16
                                        try clear c19
                                        try clear c19b0
                                        try clear c19b1
                                        try clear c19b2
                                        try clear c20
                                        try clear c21
                                        try clear c22
                                        try clear c23
                                        try clear c23b0
                                        try clear c28
                                        try clear c28b0
                                        try clear c28b1
                                        try clear c29
                                        try clear c29b0
                                        try clear c29b1
                                        try clear c30
                                        try clear c30b0
                                        try clear c31
                                        try clear c32
                                        try clear c32b0
                                        try clear c33
                                        try clear c33b0
                                        try clear c33b1
                                        try clear c34
                                        try clear c34b0
                                        try clear c34b1
                                        try clear c36
                                        try clear c38
                                        try clear c38b0
                                        try clear c39
                                        try clear c39b0
                                        try clear c39b1
                                        try clear c40
                                        try clear c40b0
                                        try clear hx118_0
                                        try clear hx119_0
                                        try clear hx120_0
                                        try clear hx121_0
                                        try clear p1
                                        try clear p11
                                        try clear p118
                                        try clear p119
                                        try clear p12
                                        try clear p120
                                        try clear p121
                                        try clear p2
                                        try clear p6
                                        try clear q1
                                        try clear q11
                                        try clear q118
                                        try clear q119
                                        try clear q12
                                        try clear q120
                                        try clear q121
                                        try clear q16
                                        obtain ⟨kq, x18_36, rfl, HA, HJ36, HO_8, HO_11, HB⟩ := hcut
                                        cases kq with
                                        | zero => exact absurd HA.out (by simp [epitomelaw19_SeekKept.j6])
                                        | succ kj36 =>
                                          have H := HA.out
                                          clear HA
                                          simp only [epitomelaw19_SeekKept.j6] at H
                                          by_cases c41 : t117 = x18_36
                                          · rw [if_pos c41] at H
                                            have c41b0 : (t117 == x18_36) = true := beq_iff_eq.mpr c41
                                            have c41b1 : (t117 != x18_36) = false := bne_eq_false_iff_eq.mpr c41
                                            clear c41
                                            have HC42 := Aside0.mk H
                                            clear H
                                            go_upto_region 29 with (fail)
                                            go_cut [19] (fun v19 wc => ∃ (kq : Nat) (x19_41 : Bool), v19 = .bool x19_41 ∧ Aside0 (epitomelaw19_SeekKept.j7 kq t101 x8_1 y108 t112 x12_3 t115 t116 x19_41 = some r) ∧ Aside0 (kq ≤ kj36) ∧ Aside0 (Kd.R (Kd.int .i64) 3 wc w.heap.size (fun k_ => some k_ ≠ ((.slice Ao26 t112.length co26) : Value).ownBlock) (.slice Ao17 x8_1.length co17) x8_1) ∧ Aside0 (Kd.R (Kd.int .i64) 3 wc w.heap.size (fun k_ => some k_ ≠ ((.slice Ao17 x8_1.length co17) : Value).ownBlock) (.slice Ao26 t112.length co26) t112) ∧ Aside0 (Below w.heap.size w wc))
                                            case first =>
                                              have H := HC42.out
                                              clear HC42
                                              by_cases c43 : x18_36 = 0
                                              · rw [if_pos c43] at H
                                                have c43b0 : (x18_36 == 0) = true := beq_iff_eq.mpr c43
                                                have c43b1 : (x18_36 != 0) = false := bne_eq_false_iff_eq.mpr c43
                                                clear c43
                                                (first | rw [c43b0] | (simp only [i64_w, i32_w]; rw [c43b0]) | skip)
                                                have H' := Aside0.mk H
                                                clear H
                                                go_wp2
                                                go_meet
                                                case rel => exact ⟨_, (true), (by first | rfl | (simp; done) | (simp [*]; done)), H', ⟨by have := HK1.out; have := HJ14.out; have := HK3.out; have := HJ24.out; have := HK5.out; have := HJ34.out; have := HJ36.out; first | omega | exact Nat.le_refl _⟩, ⟨by (with_reducible repeat (first | apply Kd.R_alloc | apply Kd.R_drewN | apply Kd.R_drew)); exact HO_8.out⟩, ⟨by (with_reducible repeat (first | apply Kd.R_alloc | apply Kd.R_drewN | apply Kd.R_drew)); exact HO_11.out⟩, ⟨by repeat (first | (with_reducible first | exact HB.out | apply below_alloc | apply pw_below_drewN | apply below_drew1) | exact HB.out)⟩⟩
                                              · rw [if_neg c43] at H
                                                have c43b0 : (x18_36 == 0) = false := beq_eq_false_iff_ne.mpr c43
                                                have c43b1 : (x18_36 != 0) = true := bne_iff_ne.mpr c43
                                                (first | rw [c43b0] | (simp only [i64_w, i32_w]; rw [c43b0]) | skip)
                                                have H' := Aside0.mk H
                                                clear H
                                                go_wp2
                                                go_meet
                                                case rel => exact ⟨_, ((x18_36 == 10)), (by first | rfl | (simp; done) | (simp [*]; done)), H', ⟨by have := HK1.out; have := HJ14.out; have := HK3.out; have := HJ24.out; have := HK5.out; have := HJ34.out; have := HJ36.out; first | omega | exact Nat.le_refl _⟩, ⟨by (with_reducible repeat (first | apply Kd.R_alloc | apply Kd.R_drewN | apply Kd.R_drew)); exact HO_8.out⟩, ⟨by (with_reducible repeat (first | apply Kd.R_alloc | apply Kd.R_drewN | apply Kd.R_drew)); exact HO_11.out⟩, ⟨by repeat (first | (with_reducible first | exact HB.out | apply below_alloc | apply pw_below_drewN | apply below_drew1) | exact HB.out)⟩⟩
                                            case rest =>
                                              clear HC42
                                              try clear c1
                                              try clear p1
                                              try clear q1
                                              try clear hx1
                                              try clear qi1
                                              try clear c2
                                              try clear p2
                                              try clear c3
                                              try clear c4
                                              try clear p6
                                              try clear c8
                                              try clear c8b0
                                              try clear c9
                                              try clear c10
                                              try clear p11
                                              try clear q11
                                              try clear hx11
                                              try clear qi11
                                              try clear c12
                                              try clear c12b0
                                              try clear c12b1
                                              try clear p12
                                              try clear q12
                                              try clear hx12
                                              try clear qi12
                                              try clear c13
                                              try clear c13b0
                                              try clear c13b1
                                              try clear c16
                                              try clear q16
                                              try clear c19
                                              try clear c19b0
                                              try clear c19b1
                                              try clear c19b2
                                              try clear c20
                                              try clear c21
                                              try clear c22
                                              try clear c23
                                              try clear c23b0
                                              try clear c28
                                              try clear c28b0
                                              try clear c28b1
                                              try clear c29
                                              try clear c29b0
                                              try clear c29b1
                                              try clear c30
                                              try clear c30b0
                                              try clear c31
                                              try clear c32
                                              try clear c32b0
                                              try clear c33
                                              try clear c33b0
                                              try clear c33b1
                                              try clear c34
                                              try clear c34b0
                                              try clear c34b1
                                              try clear c36
                                              try clear c38
                                              try clear c38b0
                                              try clear c39
                                              try clear c39b0
                                              try clear c39b1
                                              try clear c40
                                              try clear c40b0
                                              try clear c41
                                              try clear c41b0
                                              try clear c41b1
                                              try clear c43
                                              try clear c43b0
                                              try clear c43b1
                                              try clear hx118_0
                                              try clear hx119_0
                                              try clear hx120_0
                                              try clear hx121_0
                                              try clear p1
                                              try clear p11
                                              try clear p118
                                              try clear p119
                                              try clear p12
                                              try clear p120
                                              try clear p121
                                              try clear p2
                                              try clear p6
                                              try clear q1
                                              try clear q11
                                              try clear q118
                                              try clear q119
                                              try clear q12
                                              try clear q120
                                              try clear q121
                                              try clear q16
                                              obtain ⟨kq, x19_41, rfl, HA, HJ41, HO_8, HO_11, HB⟩ := hcut
                                              cases kq with
                                              | zero => exact absurd HA.out (by simp [epitomelaw19_SeekKept.j7])
                                              | succ kj41 =>
                                                have H := HA.out
                                                clear HA
                                                simp only [epitomelaw19_SeekKept.j7] at H
                                                have HC44 := Aside0.mk H
                                                clear H
                                                go_upto_region 30 with (fail)
                                                go_cut [157] (fun v157 wc => ∃ (kq : Nat) (x157_43 : Bool), v157 = .bool x157_43 ∧ Aside0 (epitomelaw19_SeekKept.j8 kq t101 x8_1 y108 t112 x12_3 t115 t116 x19_41 x157_43 = some r) ∧ Aside0 (kq ≤ kj41) ∧ Aside0 (Kd.R (Kd.int .i64) 3 wc w.heap.size (fun k_ => some k_ ≠ ((.slice Ao26 t112.length co26) : Value).ownBlock) (.slice Ao17 x8_1.length co17) x8_1) ∧ Aside0 (Kd.R (Kd.int .i64) 3 wc w.heap.size (fun k_ => some k_ ≠ ((.slice Ao17 x8_1.length co17) : Value).ownBlock) (.slice Ao26 t112.length co26) t112) ∧ Aside0 (Below w.heap.size w wc))
                                                case first =>
                                                  have H := HC44.out
                                                  clear HC44
                                                  by_cases c45 : x19_41 = true
                                                  · subst c45
                                                    have H1 : (if t115 < 0 then (epitomelaw19_SeekKept.j8 kj41 t101 x8_1 y108 t112 x12_3 t115 t116 true true) else (if t115 ≥ (t112.length : Int) then (epitomelaw19_SeekKept.j8 kj41 t101 x8_1 y108 t112 x12_3 t115 t116 true true) else (if 0 ≤ t115 then (if t115 < (t112.length : Int) then (if (rd t112 t115) = t116 then (if t116 > x12_3 then (epitomelaw19_SeekKept.j8 kj41 t101 x8_1 y108 t112 x12_3 t115 t116 true true) else (if (wrap64 (t115 + 1)) < (t112.length : Int) then (if 0 ≤ (wrap64 (t115 + 1)) then (epitomelaw19_SeekKept.j8 kj41 t101 x8_1 y108 t112 x12_3 t115 t116 true (decide ((rd t112 (wrap64 (t115 + 1))) ≤ x12_3))) else (none)) else (epitomelaw19_SeekKept.j8 kj41 t101 x8_1 y108 t112 x12_3 t115 t116 true false))) else (epitomelaw19_SeekKept.j8 kj41 t101 x8_1 y108 t112 x12_3 t115 t116 true true)) else (none)) else (none)))) = some r := by rw [if_pos rfl] at H; exact H
                                                    clear H
                                                    have H := H1
                                                    clear H1
                                                    by_cases c46 : t115 < 0
                                                    · rw [if_pos c46] at H
                                                      have c46b0 : decide (t115 < 0) = true := decide_eq_true c46
                                                      clear c46
                                                      (first | rw [c46b0] | (simp only [i64_w, i32_w]; rw [c46b0]) | skip)
                                                      have H' := Aside0.mk H
                                                      clear H
                                                      go_wp2
                                                      go_meet
                                                      case rel => exact ⟨_, (true), (by first | rfl | (simp; done) | (simp [*]; done)), H', ⟨by have := HK1.out; have := HJ14.out; have := HK3.out; have := HJ24.out; have := HK5.out; have := HJ34.out; have := HJ36.out; have := HJ41.out; first | omega | exact Nat.le_refl _⟩, ⟨by (with_reducible repeat (first | apply Kd.R_alloc | apply Kd.R_drewN | apply Kd.R_drew)); exact HO_8.out⟩, ⟨by (with_reducible repeat (first | apply Kd.R_alloc | apply Kd.R_drewN | apply Kd.R_drew)); exact HO_11.out⟩, ⟨by repeat (first | (with_reducible first | exact HB.out | apply below_alloc | apply pw_below_drewN | apply below_drew1) | exact HB.out)⟩⟩
                                                    · rw [if_neg c46] at H
                                                      have c46b0 : decide (t115 < 0) = false := decide_eq_false c46
                                                      clear c46
                                                      (first | rw [c46b0] | (simp only [i64_w, i32_w]; rw [c46b0]) | skip)
                                                      by_cases c47 : t115 ≥ (t112.length : Int)
                                                      · rw [if_pos c47] at H
                                                        have c47b0 : decide ((t112.length : Int) ≤ t115) = true := decide_eq_true c47
                                                        clear c47
                                                        have H' := Aside0.mk H
                                                        clear H
                                                        go_wp2
                                                        go_meet
                                                        case rel => exact ⟨_, (true), (by first | rfl | (simp; done) | (simp [*]; done)), H', ⟨by have := HK1.out; have := HJ14.out; have := HK3.out; have := HJ24.out; have := HK5.out; have := HJ34.out; have := HJ36.out; have := HJ41.out; first | omega | exact Nat.le_refl _⟩, ⟨by (with_reducible repeat (first | apply Kd.R_alloc | apply Kd.R_drewN | apply Kd.R_drew)); exact HO_8.out⟩, ⟨by (with_reducible repeat (first | apply Kd.R_alloc | apply Kd.R_drewN | apply Kd.R_drew)); exact HO_11.out⟩, ⟨by repeat (first | (with_reducible first | exact HB.out | apply below_alloc | apply pw_below_drewN | apply below_drew1) | exact HB.out)⟩⟩
                                                      · rw [if_neg c47] at H
                                                        have c47b0 : decide ((t112.length : Int) ≤ t115) = false := decide_eq_false c47
                                                        clear c47
                                                        by_cases c48 : 0 ≤ t115
                                                        · rw [if_pos c48] at H
                                                          have c48b0 : decide (0 ≤ t115) = true := decide_eq_true c48
                                                          clear c48
                                                          by_cases c49 : t115 < (t112.length : Int)
                                                          · rw [if_pos c49] at H
                                                            have c49b0 : decide (t115 < (t112.length : Int)) = true := decide_eq_true c49
                                                            clear c49
                                                            by_cases c50 : (rd t112 t115) = t116
                                                            · rw [if_pos c50] at H
                                                              have c50b0 : ((rd t112 t115) == t116) = true := beq_iff_eq.mpr c50
                                                              have c50b1 : ((rd t112 t115) != t116) = false := bne_eq_false_iff_eq.mpr c50
                                                              clear c50
                                                              by_cases c51 : t116 > x12_3
                                                              · rw [if_pos c51] at H
                                                                have c51b0 : decide (x12_3 < t116) = true := decide_eq_true c51
                                                                clear c51
                                                                have H' := Aside0.mk H
                                                                clear H
                                                                have p122 : 0 ≤ (t115 : Int) := of_decide_eq_true (by first | (with_reducible assumption) | assumption)
                                                                have q122 : t115 < (t112.length : Int) := of_decide_eq_true (by first | (with_reducible assumption) | assumption)
                                                                obtain ⟨ad122, e122, hx122_0⟩ := Kd.at_int (Kd.R_reads' HO_11.out).2.2 t115 p122 q122
                                                                cases e122
                                                                replace p122 := eq_true p122
                                                                replace q122 := eq_true q122
                                                                go_wp2
                                                                go_meet
                                                                case rel => exact ⟨_, (true), (by first | rfl | (simp; done) | (simp [*]; done)), H', ⟨by have := HK1.out; have := HJ14.out; have := HK3.out; have := HJ24.out; have := HK5.out; have := HJ34.out; have := HJ36.out; have := HJ41.out; first | omega | exact Nat.le_refl _⟩, ⟨by (with_reducible repeat (first | apply Kd.R_alloc | apply Kd.R_drewN | apply Kd.R_drew)); exact HO_8.out⟩, ⟨by (with_reducible repeat (first | apply Kd.R_alloc | apply Kd.R_drewN | apply Kd.R_drew)); exact HO_11.out⟩, ⟨by repeat (first | (with_reducible first | exact HB.out | apply below_alloc | apply pw_below_drewN | apply below_drew1) | exact HB.out)⟩⟩
                                                              · rw [if_neg c51] at H
                                                                have c51b0 : decide (x12_3 < t116) = false := decide_eq_false c51
                                                                clear c51
                                                                by_cases c52 : (wrap64 (t115 + 1)) < (t112.length : Int)
                                                                · rw [if_pos c52] at H
                                                                  have c52b0 : decide ((wrap64 (t115 + 1)) < (t112.length : Int)) = true := decide_eq_true c52
                                                                  clear c52
                                                                  obtain ⟨ji53, hji53⟩ : ∃ j_ : Int, (wrap64 (t115 + 1)) = j_ := ⟨_, rfl⟩
                                                                  replace H : (if 0 ≤ (ji53) then (epitomelaw19_SeekKept.j8 kj41 t101 x8_1 y108 t112 x12_3 t115 t116 true (decide ((rd t112 (ji53)) ≤ x12_3))) else (none)) = some r := by first | (rw [hji53] at H; exact H) | (simp only [hji53] at H ⊢; exact H)
                                                                  (try rw [hji53] at c52b0)
                                                                  have hji53w : (IntKind.i64.wrap (t115 + 1)) = ji53 := (i64_w _).trans hji53
                                                                  by_cases c54 : 0 ≤ (ji53)
                                                                  · rw [if_pos c54] at H
                                                                    have c54b0 : decide (0 ≤ (ji53)) = true := decide_eq_true c54
                                                                    clear c54
                                                                    have H' := Aside0.mk H
                                                                    clear H
                                                                    have p122 : 0 ≤ (t115 : Int) := of_decide_eq_true (by first | (with_reducible assumption) | assumption)
                                                                    have q122 : t115 < (t112.length : Int) := of_decide_eq_true (by first | (with_reducible assumption) | assumption)
                                                                    obtain ⟨ad122, e122, hx122_0⟩ := Kd.at_int (Kd.R_reads' HO_11.out).2.2 t115 p122 q122
                                                                    cases e122
                                                                    replace p122 := eq_true p122
                                                                    replace q122 := eq_true q122
                                                                    have p123 : 0 ≤ ((ji53) : Int) := of_decide_eq_true (by first | (with_reducible assumption) | assumption)
                                                                    have q123 : (ji53) < (t112.length : Int) := of_decide_eq_true (by first | (with_reducible assumption) | assumption)
                                                                    obtain ⟨ad123, e123, hx123_0⟩ := Kd.at_int (Kd.R_reads' HO_11.out).2.2 (ji53) p123 q123
                                                                    obtain rfl : ad122 = ad123 := (by injection e123)
                                                                    replace p123 := eq_true p123
                                                                    replace q123 := eq_true q123
                                                                    go_wp2
                                                                    go_meet
                                                                    case rel => exact ⟨_, (decide ((rd t112 (ji53)) ≤ x12_3)), (by first | rfl | (simp; done) | (simp only [← hji53] <;> (first | rfl | simp)) | (simp [*]; done)), H', ⟨by have := HK1.out; have := HJ14.out; have := HK3.out; have := HJ24.out; have := HK5.out; have := HJ34.out; have := HJ36.out; have := HJ41.out; first | omega | exact Nat.le_refl _⟩, ⟨by (with_reducible repeat (first | apply Kd.R_alloc | apply Kd.R_drewN | apply Kd.R_drew)); exact HO_8.out⟩, ⟨by (with_reducible repeat (first | apply Kd.R_alloc | apply Kd.R_drewN | apply Kd.R_drew)); exact HO_11.out⟩, ⟨by repeat (first | (with_reducible first | exact HB.out | apply below_alloc | apply pw_below_drewN | apply below_drew1) | exact HB.out)⟩⟩
                                                                  · rw [if_neg c54] at H
                                                                    exact absurd H (by simp)
                                                                · rw [if_neg c52] at H
                                                                  have c52b0 : decide ((wrap64 (t115 + 1)) < (t112.length : Int)) = false := decide_eq_false c52
                                                                  clear c52
                                                                  have H' := Aside0.mk H
                                                                  clear H
                                                                  have p122 : 0 ≤ (t115 : Int) := of_decide_eq_true (by first | (with_reducible assumption) | assumption)
                                                                  have q122 : t115 < (t112.length : Int) := of_decide_eq_true (by first | (with_reducible assumption) | assumption)
                                                                  obtain ⟨ad122, e122, hx122_0⟩ := Kd.at_int (Kd.R_reads' HO_11.out).2.2 t115 p122 q122
                                                                  cases e122
                                                                  replace p122 := eq_true p122
                                                                  replace q122 := eq_true q122
                                                                  go_wp2
                                                                  go_meet
                                                                  case rel => exact ⟨_, (false), (by first | rfl | (simp; done) | (simp [*]; done)), H', ⟨by have := HK1.out; have := HJ14.out; have := HK3.out; have := HJ24.out; have := HK5.out; have := HJ34.out; have := HJ36.out; have := HJ41.out; first | omega | exact Nat.le_refl _⟩, ⟨by (with_reducible repeat (first | apply Kd.R_alloc | apply Kd.R_drewN | apply Kd.R_drew)); exact HO_8.out⟩, ⟨by (with_reducible repeat (first | apply Kd.R_alloc | apply Kd.R_drewN | apply Kd.R_drew)); exact HO_11.out⟩, ⟨by repeat (first | (with_reducible first | exact HB.out | apply below_alloc | apply pw_below_drewN | apply below_drew1) | exact HB.out)⟩⟩
                                                            · rw [if_neg c50] at H
                                                              have c50b0 : ((rd t112 t115) == t116) = false := beq_eq_false_iff_ne.mpr c50
                                                              have c50b1 : ((rd t112 t115) != t116) = true := bne_iff_ne.mpr c50
                                                              have H' := Aside0.mk H
                                                              clear H
                                                              have p122 : 0 ≤ (t115 : Int) := of_decide_eq_true (by first | (with_reducible assumption) | assumption)
                                                              have q122 : t115 < (t112.length : Int) := of_decide_eq_true (by first | (with_reducible assumption) | assumption)
                                                              obtain ⟨ad122, e122, hx122_0⟩ := Kd.at_int (Kd.R_reads' HO_11.out).2.2 t115 p122 q122
                                                              cases e122
                                                              replace p122 := eq_true p122
                                                              replace q122 := eq_true q122
                                                              go_wp2
                                                              go_meet
                                                              case rel => exact ⟨_, (true), (by first | rfl | (simp; done) | (simp [*]; done)), H', ⟨by have := HK1.out; have := HJ14.out; have := HK3.out; have := HJ24.out; have := HK5.out; have := HJ34.out; have := HJ36.out; have := HJ41.out; first | omega | exact Nat.le_refl _⟩, ⟨by (with_reducible repeat (first | apply Kd.R_alloc | apply Kd.R_drewN | apply Kd.R_drew)); exact HO_8.out⟩, ⟨by (with_reducible repeat (first | apply Kd.R_alloc | apply Kd.R_drewN | apply Kd.R_drew)); exact HO_11.out⟩, ⟨by repeat (first | (with_reducible first | exact HB.out | apply below_alloc | apply pw_below_drewN | apply below_drew1) | exact HB.out)⟩⟩
                                                          · rw [if_neg c49] at H
                                                            exact absurd H (by simp)
                                                        · rw [if_neg c48] at H
                                                          exact absurd H (by simp)
                                                  · replace c45 := Bool.eq_false_iff.mpr c45
                                                    subst c45
                                                    have H1 : (epitomelaw19_SeekKept.j8 kj41 t101 x8_1 y108 t112 x12_3 t115 t116 false false) = some r := by rw [if_neg (show ¬ (false = true) by decide)] at H; exact H
                                                    clear H
                                                    have H := H1
                                                    clear H1
                                                    have H' := Aside0.mk H
                                                    clear H
                                                    go_wp2
                                                    go_meet
                                                    case rel => exact ⟨_, (false), (by first | rfl | (simp; done) | (simp [*]; done)), H', ⟨by have := HK1.out; have := HJ14.out; have := HK3.out; have := HJ24.out; have := HK5.out; have := HJ34.out; have := HJ36.out; have := HJ41.out; first | omega | exact Nat.le_refl _⟩, ⟨by (with_reducible repeat (first | apply Kd.R_alloc | apply Kd.R_drewN | apply Kd.R_drew)); exact HO_8.out⟩, ⟨by (with_reducible repeat (first | apply Kd.R_alloc | apply Kd.R_drewN | apply Kd.R_drew)); exact HO_11.out⟩, ⟨by repeat (first | (with_reducible first | exact HB.out | apply below_alloc | apply pw_below_drewN | apply below_drew1) | exact HB.out)⟩⟩
                                                case rest =>
                                                  clear HC44
                                                  try clear c1
                                                  try clear p1
                                                  try clear q1
                                                  try clear hx1
                                                  try clear qi1
                                                  try clear c2
                                                  try clear p2
                                                  try clear c3
                                                  try clear c4
                                                  try clear c5
                                                  try clear p6
                                                  try clear c8
                                                  try clear c8b0
                                                  try clear c9
                                                  try clear c10
                                                  try clear p11
                                                  try clear q11
                                                  try clear hx11
                                                  try clear qi11
                                                  try clear c12
                                                  try clear c12b0
                                                  try clear c12b1
                                                  try clear p12
                                                  try clear q12
                                                  try clear hx12
                                                  try clear qi12
                                                  try clear c13
                                                  try clear c13b0
                                                  try clear c13b1
                                                  try clear c16
                                                  try clear q16
                                                  try clear c19
                                                  try clear c19b0
                                                  try clear c19b1
                                                  try clear c19b2
                                                  try clear c20
                                                  try clear c21
                                                  try clear c22
                                                  try clear c23
                                                  try clear c23b0
                                                  try clear c28
                                                  try clear c28b0
                                                  try clear c28b1
                                                  try clear c29
                                                  try clear c29b0
                                                  try clear c29b1
                                                  try clear c30
                                                  try clear c30b0
                                                  try clear c31
                                                  try clear c32
                                                  try clear c32b0
                                                  try clear c33
                                                  try clear c33b0
                                                  try clear c33b1
                                                  try clear c34
                                                  try clear c34b0
                                                  try clear c34b1
                                                  try clear c36
                                                  try clear c38
                                                  try clear c38b0
                                                  try clear c39
                                                  try clear c39b0
                                                  try clear c39b1
                                                  try clear c40
                                                  try clear c40b0
                                                  try clear c41
                                                  try clear c41b0
                                                  try clear c41b1
                                                  try clear c43
                                                  try clear c43b0
                                                  try clear c43b1
                                                  try clear c45
                                                  try clear c46
                                                  try clear c46b0
                                                  try clear c47
                                                  try clear c47b0
                                                  try clear c48
                                                  try clear c48b0
                                                  try clear c49
                                                  try clear c49b0
                                                  try clear c50
                                                  try clear c50b0
                                                  try clear c50b1
                                                  try clear c51
                                                  try clear c51b0
                                                  try clear c52
                                                  try clear c52b0
                                                  try clear c54
                                                  try clear c54b0
                                                  try clear hx118_0
                                                  try clear hx119_0
                                                  try clear hx120_0
                                                  try clear hx121_0
                                                  try clear hx122_0
                                                  try clear hx123_0
                                                  try clear p1
                                                  try clear p11
                                                  try clear p118
                                                  try clear p119
                                                  try clear p12
                                                  try clear p120
                                                  try clear p121
                                                  try clear p122
                                                  try clear p123
                                                  try clear p2
                                                  try clear p6
                                                  try clear q1
                                                  try clear q11
                                                  try clear q118
                                                  try clear q119
                                                  try clear q12
                                                  try clear q120
                                                  try clear q121
                                                  try clear q122
                                                  try clear q123
                                                  try clear q16
                                                  obtain ⟨kq, x157_43, rfl, HA, HJ43, HO_8, HO_11, HB⟩ := hcut
                                                  cases kq with
                                                  | zero => exact absurd HA.out (by simp [epitomelaw19_SeekKept.j8])
                                                  | succ kj43 =>
                                                    have H := HA.out
                                                    clear HA
                                                    simp only [epitomelaw19_SeekKept.j8] at H
                                                    by_cases c55 : x157_43 = true
                                                    · subst c55
                                                      have H1 : (some false) = some r := by rw [if_pos rfl] at H; exact H
                                                      clear H
                                                      have H := H1
                                                      clear H1
                                                      obtain rfl := Option.some.inj H
                                                      go_wp2
                                                      go_ret
                                                      exact ⟨by first | rfl | (simp [errW_none, errW_some] <;> rfl) | (simp only [← hji11]; first | rfl | (simp [errW_none, errW_some] <;> rfl)) | (simp [*, errW_none, errW_some] <;> rfl), by repeat (first | (with_reducible first | exact HB.out | apply below_alloc | apply pw_below_drewN | apply below_drew1) | exact HB.out)⟩
                                                    · replace c55 := Bool.eq_false_iff.mpr c55
                                                      subst c55
                                                      have H1 : (if x19_41 = true then (epitomelaw19_SeekKept.l1 kj43 t101 x8_1 y108 t112 (wrap64 (x12_3 + 1))) else (if t115 = 0 then (if t116 = 0 then (epitomelaw19_SeekKept.l1 kj43 t101 x8_1 y108 t112 (wrap64 (x12_3 + 1))) else (some false)) else (some false))) = some r := by rw [if_neg (show ¬ (false = true) by decide)] at H; exact H
                                                      clear H
                                                      have H := H1
                                                      clear H1
                                                      by_cases c56 : x19_41 = true
                                                      · subst c56
                                                        have H1 : (epitomelaw19_SeekKept.l1 kj43 t101 x8_1 y108 t112 (wrap64 (x12_3 + 1))) = some r := by rw [if_pos rfl] at H; exact H
                                                        clear H
                                                        have H := H1
                                                        clear H1
                                                        have H' := Aside0.mk H
                                                        clear H
                                                        go_wp2
                                                        go_roundg kj43
                                                        case measure => have := HK1.out; have := HJ14.out; have := HK3.out; have := HJ24.out; have := HK5.out; have := HJ34.out; have := HJ36.out; have := HJ41.out; have := HJ43.out; omega
                                                        case rel => exact ⟨(wrap64 (x12_3 + 1)), (by first | rfl | (simp; done) | (simp [*]; done)), H', ⟨by have := HK1.out; have := HJ14.out; have := HK3.out; have := HJ24.out; have := HK5.out; have := HJ34.out; have := HJ36.out; have := HJ41.out; have := HJ43.out; omega⟩, ⟨by (with_reducible repeat (first | apply Kd.R_alloc | apply Kd.R_drewN | apply Kd.R_drew)); exact HO_8.out⟩, ⟨by (with_reducible repeat (first | apply Kd.R_alloc | apply Kd.R_drewN | apply Kd.R_drew)); exact HO_11.out⟩, ⟨by repeat (first | (with_reducible first | exact HB.out | apply below_alloc | apply pw_below_drewN | apply below_drew1) | exact HB.out)⟩⟩
                                                      · replace c56 := Bool.eq_false_iff.mpr c56
                                                        subst c56
                                                        have H1 : (if t115 = 0 then (if t116 = 0 then (epitomelaw19_SeekKept.l1 kj43 t101 x8_1 y108 t112 (wrap64 (x12_3 + 1))) else (some false)) else (some false)) = some r := by rw [if_neg (show ¬ (false = true) by decide)] at H; exact H
                                                        clear H
                                                        have H := H1
                                                        clear H1
                                                        by_cases c57 : t115 = 0
                                                        · rw [if_pos c57] at H
                                                          have c57b0 : (t115 == 0) = true := beq_iff_eq.mpr c57
                                                          have c57b1 : (t115 != 0) = false := bne_eq_false_iff_eq.mpr c57
                                                          clear c57
                                                          by_cases c58 : t116 = 0
                                                          · rw [if_pos c58] at H
                                                            have c58b0 : (t116 == 0) = true := beq_iff_eq.mpr c58
                                                            have c58b1 : (t116 != 0) = false := bne_eq_false_iff_eq.mpr c58
                                                            clear c58
                                                            have H' := Aside0.mk H
                                                            clear H
                                                            go_wp2
                                                            go_roundg kj43
                                                            case measure => have := HK1.out; have := HJ14.out; have := HK3.out; have := HJ24.out; have := HK5.out; have := HJ34.out; have := HJ36.out; have := HJ41.out; have := HJ43.out; omega
                                                            case rel => exact ⟨(wrap64 (x12_3 + 1)), (by first | rfl | (simp; done) | (simp [*]; done)), H', ⟨by have := HK1.out; have := HJ14.out; have := HK3.out; have := HJ24.out; have := HK5.out; have := HJ34.out; have := HJ36.out; have := HJ41.out; have := HJ43.out; omega⟩, ⟨by (with_reducible repeat (first | apply Kd.R_alloc | apply Kd.R_drewN | apply Kd.R_drew)); exact HO_8.out⟩, ⟨by (with_reducible repeat (first | apply Kd.R_alloc | apply Kd.R_drewN | apply Kd.R_drew)); exact HO_11.out⟩, ⟨by repeat (first | (with_reducible first | exact HB.out | apply below_alloc | apply pw_below_drewN | apply below_drew1) | exact HB.out)⟩⟩
                                                          · rw [if_neg c58] at H
                                                            have c58b0 : (t116 == 0) = false := beq_eq_false_iff_ne.mpr c58
                                                            have c58b1 : (t116 != 0) = true := bne_iff_ne.mpr c58
                                                            obtain rfl := Option.some.inj H
                                                            go_wp2
                                                            go_ret
                                                            exact ⟨by first | rfl | (simp [errW_none, errW_some] <;> rfl) | (simp only [← hji11]; first | rfl | (simp [errW_none, errW_some] <;> rfl)) | (simp [*, errW_none, errW_some] <;> rfl), by repeat (first | (with_reducible first | exact HB.out | apply below_alloc | apply pw_below_drewN | apply below_drew1) | exact HB.out)⟩
                                                        · rw [if_neg c57] at H
                                                          have c57b0 : (t115 == 0) = false := beq_eq_false_iff_ne.mpr c57
                                                          have c57b1 : (t115 != 0) = true := bne_iff_ne.mpr c57
                                                          obtain rfl := Option.some.inj H
                                                          go_wp2
                                                          go_ret
                                                          exact ⟨by first | rfl | (simp [errW_none, errW_some] <;> rfl) | (simp only [← hji11]; first | rfl | (simp [errW_none, errW_some] <;> rfl)) | (simp [*, errW_none, errW_some] <;> rfl), by repeat (first | (with_reducible first | exact HB.out | apply below_alloc | apply pw_below_drewN | apply below_drew1) | exact HB.out)⟩
                                          · rw [if_neg c41] at H
                                            have c41b0 : (t117 == x18_36) = false := beq_eq_false_iff_ne.mpr c41
                                            have c41b1 : (t117 != x18_36) = true := bne_iff_ne.mpr c41
                                            obtain rfl := Option.some.inj H
                                            go_wp2
                                            go_ret
                                            exact ⟨by first | rfl | (simp [errW_none, errW_some] <;> rfl) | (simp only [← hji11]; first | rfl | (simp [errW_none, errW_some] <;> rfl)) | (simp [*, errW_none, errW_some] <;> rfl), by repeat (first | (with_reducible first | exact HB.out | apply below_alloc | apply pw_below_drewN | apply below_drew1) | exact HB.out)⟩
                      · rw [if_neg c23] at H
                        have c23b0 : decide (x12_3 ≤ (x8_1.length : Int)) = false := decide_eq_false c23
                        clear c23
                        obtain rfl := Option.some.inj H
                        go_wp2
                        go_ret
                        exact ⟨by first | rfl | (simp [errW_none, errW_some] <;> rfl) | (simp only [← hji11]; first | rfl | (simp [errW_none, errW_some] <;> rfl)) | (simp [*, errW_none, errW_some] <;> rfl), by repeat (first | (with_reducible first | exact HB.out | apply below_alloc | apply pw_below_drewN | apply below_drew1) | exact HB.out)⟩
          · rw [if_neg c13] at H
            exact absurd H (by simp)
        · rw [if_neg c12] at H
          exact absurd H (by simp)

end Go.Proofs.Ytdmgbgobfkjeiaa.F
