import Derived.Test.YtabodcedlhahfaaDoorKUnderD
import Derived.Below
import Derived.Deep.Draws
import Derived.Deep.AppendLies
import Derived.Maps.AppendAt
import Derived.OwnWalk
import Derived.Laws.BytesArg
import Derived.Laws.MakeOwn
import Derived.Laws.OwnMore
import Derived.Deep.OwnRows
import Derived.Tactics
import Derived.Lib.ConvBytes
import Derived.Laws.Slices
import Derived.WalkKit
import Derived.KernelRfl
import Derived.RowKit3
import Derived.Deep.LoopGhost
import Derived.Deep.QuietTactic
import Derived.BigQuiet
import Derived.WideLaws
import Derived.Deep.DeepCutAuto
import Derived.Deep.CutBlock
import Derived.Deep.RegionHeld3
import Derived.Laws.Rows
import Derived.Lib.AppendStr
import Derived.ArgAppend
import Derived.Laws.IdiomCopy
import Derived.RowKit
import Derived.OrdersHeld
import Derived.Laws.BitsLemmas
import Derived.Laws.StructEq
import Derived.Test.YtabodcedlhahfaaDoorProg
import Derived.Handy
import Derived.Shelf.Unicode.DecodeSlow
import Derived.Ground.NamesProg
import Derived.Shelf.Unicode.ValidAny
import Derived.Laws.RangeString
import Derived.Laws.RangeAny
import Derived.Lib.RuneCount
import Derived.Laws.IdiomStrings
import Derived.Laws.Cover4
import Derived.Great.BuildSlice
import Derived.Defers
import Derived.Laws.EntriesVeiled
section
namespace Go.Proofs.YtabodcedlhahfaaDoor.F
open Go.RowKit Go.Proofs.YtabodcedlhahfaaDoorW.PrintWords Go.Proofs.YtabodcedlhahfaaDoorW.PrintLast Go.Proofs.YtabodcedlhahfaaDoorW.PrintMore
attribute [local go_sem] max2_int min2_int max_two min_two max_three min_three max_four min_four cell_setCell_isSome
set_option linter.unusedVariables false
set_option linter.unusedSimpArgs false
def epitomelaw12_drops.l0 : Nat → List (S26) → Int → Int → Option (Int)
  | 0, _, _, _ => none
  | k + 1, x0, x3, x4 => if x4 < (x0.length : Int) then (if 0 ≤ x4 then (if ((rd_T26 x0 x4).f0) = 3 then (epitomelaw12_drops.l0 k x0 (wrap64 (x3 + ((rd_T26 x0 x4).f1))) (wrap64 (x4 + 1))) else (epitomelaw12_drops.l0 k x0 x3 (wrap64 (x4 + 1)))) else (none)) else (some x3)
def epitomelaw12_drops.f (k : Nat) (l0 : List (S26)) : Option (Int) := epitomelaw12_drops.l0 k l0 0 0
theorem epitomelaw12_drops.mono_l : ∀ k, (∀ y0 y1 y2, LeO (epitomelaw12_drops.l0 k y0 y1 y2) (epitomelaw12_drops.l0 (k + 1) y0 y1 y2))
  | 0 => fun _ _ _ r h => by simp [epitomelaw12_drops.l0] at h
  | k + 1 => by
    have ih0 := epitomelaw12_drops.mono_l k
    · intro y0 y1 y2
      unfold epitomelaw12_drops.l0
      repeat' first
      | (with_reducible exact ih0 _ _ _)
      | (with_reducible exact LeO.refl _)
      | (with_reducible exact LeO.none _)
      | (with_reducible refine LeO.ite ?_ ?_)
      | (with_reducible refine LeO.bind ?_ (fun _ => ?_))
      | exact ih0 _ _ _
      | exact LeO.none _
      | refine LeO.ite ?_ ?_
      | refine LeO.bind ?_ (fun _ => ?_)
set_option maxHeartbeats 8000000 in
set_option maxRecDepth 100000 in
theorem epitomelaw12_drops.calls (k : Nat) (A0 : Option Addr) (c0 : Nat) (l0 : List (S26)) (r : Int) (w : World) (hr0 : Kd.C k26 w A0 l0.length l0) (hc0 : l0.length ≤ c0) (h : epitomelaw12_drops.f k l0 = some r) :
    Calls Tryd.prog 23 #[.slice A0 l0.length c0] w fun e w' => e = .returned (.int .i64 r) ∧ Drawn0 w w' := by
  have HR0 := Aside0.mk hr0
  have HC0 := Aside0.mk hc0
  clear hr0 hc0
  have H : (epitomelaw12_drops.l0 k l0 0 0) = some r := h
  clear h
  have H' := Aside0.mk H
  clear H
  go_enter Tryd.func23, Tryd.ntmps23
  go_wp2
  go_loopg [3, 4] k (fun kq v3 v4 w' => ∃ (x3_1 : Int) (x4_1 : Int), v3 = .int .i64 x3_1 ∧ v4 = .int .i64 x4_1 ∧ Aside0 (epitomelaw12_drops.l0 kq l0 x3_1 x4_1 = some r) ∧ Aside0 (kq ≤ k) ∧ Drawn0 w w')
  case atStart => exact ⟨(0), (0), (by first | rfl | (simp; done) | (simp [*]; done)), (by first | rfl | (simp; done) | (simp [*]; done)), H', ⟨Nat.le_refl _⟩, by repeat (first | exact Drawn0.refl _ | apply Drawn0.step)⟩
  case round =>
    clear H'
    obtain ⟨x3_1, x4_1, rfl, rfl, HA, HK1, ⟨m1, rfl⟩⟩ := hrel
    cases gk with
    | zero => exact absurd HA.out (by simp [epitomelaw12_drops.l0])
    | succ k1 =>
      have H := HA.out
      clear HA
      simp only [epitomelaw12_drops.l0] at H
      by_cases c2 : x4_1 < (l0.length : Int)
      · rw [if_pos c2] at H
        have c2b0 : decide (x4_1 < (l0.length : Int)) = true := decide_eq_true c2
        clear c2
        by_cases c3 : 0 ≤ x4_1
        · rw [if_pos c3] at H
          have c3b0 : decide (0 ≤ x4_1) = true := decide_eq_true c3
          clear c3
          by_cases c4 : ((rd_T26 l0 x4_1).f0) = 3
          · rw [if_pos c4] at H
            have c4b0 : (((rd_T26 l0 x4_1).f0) == 3) = true := beq_iff_eq.mpr c4
            have c4b1 : (((rd_T26 l0 x4_1).f0) != 3) = false := bne_eq_false_iff_eq.mpr c4
            clear c4
            have H' := Aside0.mk H
            clear H
            have p101 : 0 ≤ (x4_1 : Int) := of_decide_eq_true (by first | (with_reducible assumption) | assumption)
            have q101 : x4_1 < (l0.length : Int) := of_decide_eq_true (by first | (with_reducible assumption) | assumption)
            obtain ⟨ad101, e101, hx101_0, hx101_1, hx101_2⟩ := at_T26 HR0.out x4_1 p101 q101
            cases e101
            replace p101 := eq_true p101
            replace q101 := eq_true q101
            have p102 : 0 ≤ (x4_1 : Int) := of_decide_eq_true (by first | (with_reducible assumption) | assumption)
            have q102 : x4_1 < (l0.length : Int) := of_decide_eq_true (by first | (with_reducible assumption) | assumption)
            obtain ⟨ad102, e102, hx102_0, hx102_1, hx102_2⟩ := at_T26 HR0.out x4_1 p102 q102
            obtain rfl : ad101 = ad102 := (by injection e102)
            replace p102 := eq_true p102
            replace q102 := eq_true q102
            go_wp2
            go_roundg k1
            case measure => have := HK1.out; omega
            case rel => exact ⟨(wrap64 (x3_1 + ((rd_T26 l0 x4_1).f1))), (wrap64 (x4_1 + 1)), (by first | rfl | (simp; done) | (simp [*]; done)), (by first | rfl | (simp; done) | (simp [*]; done)), H', ⟨by have := HK1.out; omega⟩, by repeat (first | exact Drawn0.refl _ | apply Drawn0.step)⟩
          · rw [if_neg c4] at H
            have c4b0 : (((rd_T26 l0 x4_1).f0) == 3) = false := beq_eq_false_iff_ne.mpr c4
            have c4b1 : (((rd_T26 l0 x4_1).f0) != 3) = true := bne_iff_ne.mpr c4
            have H' := Aside0.mk H
            clear H
            have p101 : 0 ≤ (x4_1 : Int) := of_decide_eq_true (by first | (with_reducible assumption) | assumption)
            have q101 : x4_1 < (l0.length : Int) := of_decide_eq_true (by first | (with_reducible assumption) | assumption)
            obtain ⟨ad101, e101, hx101_0, hx101_1, hx101_2⟩ := at_T26 HR0.out x4_1 p101 q101
            cases e101
            replace p101 := eq_true p101
            replace q101 := eq_true q101
            go_wp2
            go_roundg k1
            case measure => have := HK1.out; omega
            case rel => exact ⟨(x3_1), (wrap64 (x4_1 + 1)), (by first | rfl | (simp; done) | (simp [*]; done)), (by first | rfl | (simp; done) | (simp [*]; done)), H', ⟨by have := HK1.out; omega⟩, by repeat (first | exact Drawn0.refl _ | apply Drawn0.step)⟩
        · rw [if_neg c3] at H
          exact absurd H (by simp)
      · rw [if_neg c2] at H
        have c2b0 : decide (x4_1 < (l0.length : Int)) = false := decide_eq_false c2
        clear c2
        obtain rfl := Option.some.inj H
        go_wp2
        go_ret
        exact ⟨by first | rfl | (simp; done) | (simp [*]; done), by repeat (first | exact Drawn0.refl _ | apply Drawn0.step)⟩
end Go.Proofs.YtabodcedlhahfaaDoor.F
end
section
namespace Go.Proofs.YtabodcedlhahfaaDoor.F
open Go.RowKit Go.Proofs.YtabodcedlhahfaaDoorW.PrintWords Go.Proofs.YtabodcedlhahfaaDoorW.PrintLast Go.Proofs.YtabodcedlhahfaaDoorW.PrintMore
attribute [local go_sem] max2_int min2_int max_two min_two max_three min_three max_four min_four cell_setCell_isSome
set_option linter.unusedVariables false
set_option linter.unusedSimpArgs false
def epitomelaw12_UnderDrops.f (k : Nat) (l0 : List (S26)) (l1 : List (S26)) (a2 : Int) : Option (Bool) := (epitomelaw12_shown.f k).bind fun t101 => ((epitomeref04_Fit.f k l0 (wrap64 (Int.tmod a2 64))).bind fun t102 => ((epitomeref04_Fit.f k l1 (wrap64 (Int.tmod a2 64))).bind fun t105 => ((under_Meet.f k t102 t105).bind fun bt108 => (if t101 = true then (if bt108.2.2 = 0 then ((op_In.f k bt108.1).bind fun t115 => ((op_Out.f k t105).bind fun t116 => (if t115 = t116 then ((op_In.f k bt108.2.1).bind fun t117 => ((op_Out.f k t102).bind fun t118 => (if t117 = t118 then ((op_Out.f k bt108.1).bind fun t119 => ((op_Out.f k bt108.2.1).bind fun t120 => (if t119 = t120 then ((epitomelaw12_drops.f k t105).bind fun t121 => ((epitomelaw12_drops.f k bt108.1).bind fun t122 => ((epitomelaw12_drops.f k t102).bind fun t123 => ((epitomelaw12_drops.f k bt108.2.1).bind fun t124 => (some ((wrap64 (t121 + t122)) == (wrap64 (t123 + t124)))))))) else (some false)))) else (some false)))) else (some false)))) else (some false)) else (some false)))))
set_option maxHeartbeats 8000000 in
set_option maxRecDepth 100000 in
theorem epitomelaw12_UnderDrops.calls (k : Nat) (A0 : Option Addr) (c0 : Nat) (l0 : List (S26)) (A1 : Option Addr) (c1 : Nat) (l1 : List (S26)) (a2 : Int) (r : Bool) (hr_ : Aside0 (r = true)) (w : World) (hG : Glob w) (hr0 : Kd.C k26 w A0 l0.length l0) (hc0 : l0.length ≤ c0) (hr1 : Kd.C k26 w A1 l1.length l1) (hc1 : l1.length ≤ c1) (h : epitomelaw12_UnderDrops.f k l0 l1 a2 = some r) :
    Calls Tryd.prog 5 #[.slice A0 l0.length c0, .slice A1 l1.length c1, .int .u8 a2] w fun e w' => e = .returned (.bool r) ∧ Below w.heap.size w w' := by
  have HG := Aside0.mk hG
  clear hG
  have HR0 := Aside0.mk hr0
  have HC0 := Aside0.mk hc0
  clear hr0 hc0
  have HR1 := Aside0.mk hr1
  have HC1 := Aside0.mk hc1
  clear hr1 hc1
  have HB := Aside0.mk (Below.refl w.heap.size w)
  have H : ((epitomelaw12_shown.f k).bind fun t101 => ((epitomeref04_Fit.f k l0 (wrap64 (Int.tmod a2 64))).bind fun t102 => ((epitomeref04_Fit.f k l1 (wrap64 (Int.tmod a2 64))).bind fun t105 => ((under_Meet.f k t102 t105).bind fun bt108 => (if t101 = true then (if bt108.2.2 = 0 then ((op_In.f k bt108.1).bind fun t115 => ((op_Out.f k t105).bind fun t116 => (if t115 = t116 then ((op_In.f k bt108.2.1).bind fun t117 => ((op_Out.f k t102).bind fun t118 => (if t117 = t118 then ((op_Out.f k bt108.1).bind fun t119 => ((op_Out.f k bt108.2.1).bind fun t120 => (if t119 = t120 then ((epitomelaw12_drops.f k t105).bind fun t121 => ((epitomelaw12_drops.f k bt108.1).bind fun t122 => ((epitomelaw12_drops.f k t102).bind fun t123 => ((epitomelaw12_drops.f k bt108.2.1).bind fun t124 => (some ((wrap64 (t121 + t122)) == (wrap64 (t123 + t124)))))))) else (some false)))) else (some false)))) else (some false)))) else (some false)) else (some false)))))) = some r := h
  clear h
  replace H := Option.bind_eq_some_iff.mp H
  obtain ⟨t101, A40, H⟩ := H
  replace H : ((epitomeref04_Fit.f k l0 (wrap64 (Int.tmod a2 64))).bind fun t102 => ((epitomeref04_Fit.f k l1 (wrap64 (Int.tmod a2 64))).bind fun t105 => ((under_Meet.f k t102 t105).bind fun bt108 => (if t101 = true then (if bt108.2.2 = 0 then ((op_In.f k bt108.1).bind fun t115 => ((op_Out.f k t105).bind fun t116 => (if t115 = t116 then ((op_In.f k bt108.2.1).bind fun t117 => ((op_Out.f k t102).bind fun t118 => (if t117 = t118 then ((op_Out.f k bt108.1).bind fun t119 => ((op_Out.f k bt108.2.1).bind fun t120 => (if t119 = t120 then ((epitomelaw12_drops.f k t105).bind fun t121 => ((epitomelaw12_drops.f k bt108.1).bind fun t122 => ((epitomelaw12_drops.f k t102).bind fun t123 => ((epitomelaw12_drops.f k bt108.2.1).bind fun t124 => (some ((wrap64 (t121 + t122)) == (wrap64 (t123 + t124)))))))) else (some false)))) else (some false)))) else (some false)))) else (some false)) else (some false))))) = some r := H
  have A4 := Aside0.mk A40
  clear A40
  replace H := Option.bind_eq_some_iff.mp H
  obtain ⟨t102, A50, H⟩ := H
  replace H : ((epitomeref04_Fit.f k l1 (wrap64 (Int.tmod a2 64))).bind fun t105 => ((under_Meet.f k t102 t105).bind fun bt108 => (if t101 = true then (if bt108.2.2 = 0 then ((op_In.f k bt108.1).bind fun t115 => ((op_Out.f k t105).bind fun t116 => (if t115 = t116 then ((op_In.f k bt108.2.1).bind fun t117 => ((op_Out.f k t102).bind fun t118 => (if t117 = t118 then ((op_Out.f k bt108.1).bind fun t119 => ((op_Out.f k bt108.2.1).bind fun t120 => (if t119 = t120 then ((epitomelaw12_drops.f k t105).bind fun t121 => ((epitomelaw12_drops.f k bt108.1).bind fun t122 => ((epitomelaw12_drops.f k t102).bind fun t123 => ((epitomelaw12_drops.f k bt108.2.1).bind fun t124 => (some ((wrap64 (t121 + t122)) == (wrap64 (t123 + t124)))))))) else (some false)))) else (some false)))) else (some false)))) else (some false)) else (some false)))) = some r := H
  have A5 := Aside0.mk A50
  clear A50
  replace H := Option.bind_eq_some_iff.mp H
  obtain ⟨t105, A60, H⟩ := H
  replace H : ((under_Meet.f k t102 t105).bind fun bt108 => (if t101 = true then (if bt108.2.2 = 0 then ((op_In.f k bt108.1).bind fun t115 => ((op_Out.f k t105).bind fun t116 => (if t115 = t116 then ((op_In.f k bt108.2.1).bind fun t117 => ((op_Out.f k t102).bind fun t118 => (if t117 = t118 then ((op_Out.f k bt108.1).bind fun t119 => ((op_Out.f k bt108.2.1).bind fun t120 => (if t119 = t120 then ((epitomelaw12_drops.f k t105).bind fun t121 => ((epitomelaw12_drops.f k bt108.1).bind fun t122 => ((epitomelaw12_drops.f k t102).bind fun t123 => ((epitomelaw12_drops.f k bt108.2.1).bind fun t124 => (some ((wrap64 (t121 + t122)) == (wrap64 (t123 + t124)))))))) else (some false)))) else (some false)))) else (some false)))) else (some false)) else (some false))) = some r := H
  have A6 := Aside0.mk A60
  clear A60
  replace H := Option.bind_eq_some_iff.mp H
  obtain ⟨⟨t108, t109, t110⟩, A70, H⟩ := H
  replace H : (if t101 = true then (if t110 = 0 then ((op_In.f k t108).bind fun t115 => ((op_Out.f k t105).bind fun t116 => (if t115 = t116 then ((op_In.f k t109).bind fun t117 => ((op_Out.f k t102).bind fun t118 => (if t117 = t118 then ((op_Out.f k t108).bind fun t119 => ((op_Out.f k t109).bind fun t120 => (if t119 = t120 then ((epitomelaw12_drops.f k t105).bind fun t121 => ((epitomelaw12_drops.f k t108).bind fun t122 => ((epitomelaw12_drops.f k t102).bind fun t123 => ((epitomelaw12_drops.f k t109).bind fun t124 => (some ((wrap64 (t121 + t122)) == (wrap64 (t123 + t124)))))))) else (some false)))) else (some false)))) else (some false)))) else (some false)) else (some false)) = some r := H
  have A7 := Aside0.mk A70
  clear A70
  by_cases c8 : t101 = true
  · subst c8
    have H1 : (if t110 = 0 then ((op_In.f k t108).bind fun t115 => ((op_Out.f k t105).bind fun t116 => (if t115 = t116 then ((op_In.f k t109).bind fun t117 => ((op_Out.f k t102).bind fun t118 => (if t117 = t118 then ((op_Out.f k t108).bind fun t119 => ((op_Out.f k t109).bind fun t120 => (if t119 = t120 then ((epitomelaw12_drops.f k t105).bind fun t121 => ((epitomelaw12_drops.f k t108).bind fun t122 => ((epitomelaw12_drops.f k t102).bind fun t123 => ((epitomelaw12_drops.f k t109).bind fun t124 => (some ((wrap64 (t121 + t122)) == (wrap64 (t123 + t124)))))))) else (some false)))) else (some false)))) else (some false)))) else (some false)) = some r := by rw [if_pos rfl] at H; exact H
    clear H
    have H := H1
    clear H1
    by_cases c9 : t110 = 0
    · rw [if_pos c9] at H
      have c9b0 : (t110 == 0) = true := beq_iff_eq.mpr c9
      have c9b1 : (t110 != 0) = false := bne_eq_false_iff_eq.mpr c9
      clear c9
      replace H := Option.bind_eq_some_iff.mp H
      obtain ⟨t115, A100, H⟩ := H
      replace H : ((op_Out.f k t105).bind fun t116 => (if t115 = t116 then ((op_In.f k t109).bind fun t117 => ((op_Out.f k t102).bind fun t118 => (if t117 = t118 then ((op_Out.f k t108).bind fun t119 => ((op_Out.f k t109).bind fun t120 => (if t119 = t120 then ((epitomelaw12_drops.f k t105).bind fun t121 => ((epitomelaw12_drops.f k t108).bind fun t122 => ((epitomelaw12_drops.f k t102).bind fun t123 => ((epitomelaw12_drops.f k t109).bind fun t124 => (some ((wrap64 (t121 + t122)) == (wrap64 (t123 + t124)))))))) else (some false)))) else (some false)))) else (some false))) = some r := H
      have A10 := Aside0.mk A100
      clear A100
      replace H := Option.bind_eq_some_iff.mp H
      obtain ⟨t116, A110, H⟩ := H
      replace H : (if t115 = t116 then ((op_In.f k t109).bind fun t117 => ((op_Out.f k t102).bind fun t118 => (if t117 = t118 then ((op_Out.f k t108).bind fun t119 => ((op_Out.f k t109).bind fun t120 => (if t119 = t120 then ((epitomelaw12_drops.f k t105).bind fun t121 => ((epitomelaw12_drops.f k t108).bind fun t122 => ((epitomelaw12_drops.f k t102).bind fun t123 => ((epitomelaw12_drops.f k t109).bind fun t124 => (some ((wrap64 (t121 + t122)) == (wrap64 (t123 + t124)))))))) else (some false)))) else (some false)))) else (some false)) = some r := H
      have A11 := Aside0.mk A110
      clear A110
      by_cases c12 : t115 = t116
      · rw [if_pos c12] at H
        have c12b0 : (t115 == t116) = true := beq_iff_eq.mpr c12
        have c12b1 : (t115 != t116) = false := bne_eq_false_iff_eq.mpr c12
        clear c12
        replace H := Option.bind_eq_some_iff.mp H
        obtain ⟨t117, A130, H⟩ := H
        replace H : ((op_Out.f k t102).bind fun t118 => (if t117 = t118 then ((op_Out.f k t108).bind fun t119 => ((op_Out.f k t109).bind fun t120 => (if t119 = t120 then ((epitomelaw12_drops.f k t105).bind fun t121 => ((epitomelaw12_drops.f k t108).bind fun t122 => ((epitomelaw12_drops.f k t102).bind fun t123 => ((epitomelaw12_drops.f k t109).bind fun t124 => (some ((wrap64 (t121 + t122)) == (wrap64 (t123 + t124)))))))) else (some false)))) else (some false))) = some r := H
        have A13 := Aside0.mk A130
        clear A130
        replace H := Option.bind_eq_some_iff.mp H
        obtain ⟨t118, A140, H⟩ := H
        replace H : (if t117 = t118 then ((op_Out.f k t108).bind fun t119 => ((op_Out.f k t109).bind fun t120 => (if t119 = t120 then ((epitomelaw12_drops.f k t105).bind fun t121 => ((epitomelaw12_drops.f k t108).bind fun t122 => ((epitomelaw12_drops.f k t102).bind fun t123 => ((epitomelaw12_drops.f k t109).bind fun t124 => (some ((wrap64 (t121 + t122)) == (wrap64 (t123 + t124)))))))) else (some false)))) else (some false)) = some r := H
        have A14 := Aside0.mk A140
        clear A140
        by_cases c15 : t117 = t118
        · rw [if_pos c15] at H
          have c15b0 : (t117 == t118) = true := beq_iff_eq.mpr c15
          have c15b1 : (t117 != t118) = false := bne_eq_false_iff_eq.mpr c15
          clear c15
          replace H := Option.bind_eq_some_iff.mp H
          obtain ⟨t119, A160, H⟩ := H
          replace H : ((op_Out.f k t109).bind fun t120 => (if t119 = t120 then ((epitomelaw12_drops.f k t105).bind fun t121 => ((epitomelaw12_drops.f k t108).bind fun t122 => ((epitomelaw12_drops.f k t102).bind fun t123 => ((epitomelaw12_drops.f k t109).bind fun t124 => (some ((wrap64 (t121 + t122)) == (wrap64 (t123 + t124)))))))) else (some false))) = some r := H
          have A16 := Aside0.mk A160
          clear A160
          replace H := Option.bind_eq_some_iff.mp H
          obtain ⟨t120, A170, H⟩ := H
          replace H : (if t119 = t120 then ((epitomelaw12_drops.f k t105).bind fun t121 => ((epitomelaw12_drops.f k t108).bind fun t122 => ((epitomelaw12_drops.f k t102).bind fun t123 => ((epitomelaw12_drops.f k t109).bind fun t124 => (some ((wrap64 (t121 + t122)) == (wrap64 (t123 + t124)))))))) else (some false)) = some r := H
          have A17 := Aside0.mk A170
          clear A170
          by_cases c18 : t119 = t120
          · rw [if_pos c18] at H
            have c18b0 : (t119 == t120) = true := beq_iff_eq.mpr c18
            have c18b1 : (t119 != t120) = false := bne_eq_false_iff_eq.mpr c18
            clear c18
            replace H := Option.bind_eq_some_iff.mp H
            obtain ⟨t121, A190, H⟩ := H
            replace H : ((epitomelaw12_drops.f k t108).bind fun t122 => ((epitomelaw12_drops.f k t102).bind fun t123 => ((epitomelaw12_drops.f k t109).bind fun t124 => (some ((wrap64 (t121 + t122)) == (wrap64 (t123 + t124))))))) = some r := H
            have A19 := Aside0.mk A190
            clear A190
            replace H := Option.bind_eq_some_iff.mp H
            obtain ⟨t122, A200, H⟩ := H
            replace H : ((epitomelaw12_drops.f k t102).bind fun t123 => ((epitomelaw12_drops.f k t109).bind fun t124 => (some ((wrap64 (t121 + t122)) == (wrap64 (t123 + t124)))))) = some r := H
            have A20 := Aside0.mk A200
            clear A200
            replace H := Option.bind_eq_some_iff.mp H
            obtain ⟨t123, A210, H⟩ := H
            replace H : ((epitomelaw12_drops.f k t109).bind fun t124 => (some ((wrap64 (t121 + t122)) == (wrap64 (t123 + t124))))) = some r := H
            have A21 := Aside0.mk A210
            clear A210
            replace H := Option.bind_eq_some_iff.mp H
            obtain ⟨t124, A220, H⟩ := H
            replace H : (some ((wrap64 (t121 + t122)) == (wrap64 (t123 + t124)))) = some r := H
            have A22 := Aside0.mk A220
            clear A220
            obtain rfl := Option.some.inj H
            go_enter Tryd.func5, Tryd.ntmps5
            go_wp2_with (first | ((with_reducible refine gate_callee (f := 9) rfl ?_); refine goesL_ (some 14) rfl rfl Tryd.func9 (by kernel_rfl) rfl #[] rfl (by (try simp only [List.map_toArray, List.map_cons, List.map_nil]); first | done | rfl | (simp only [List.length_drop, List.length_take]; rfl)) ?_; (with_reducible refine (epitomelaw12_shown.calls k  true _ ?side1 A4.out).mono ?_); (case side1 => first | (with_reducible exact HG.out) | exact Glob.below HG.out (by repeat (first | (with_reducible first | exact HB.out | apply below_alloc | apply pw_below_drewN | apply below_drew1) | exact HB.out)) | exact Glob.drawn HG.out (by repeat (first | exact Drawn0.refl _ | apply Drawn0.step))); rintro e w23 ⟨rfl, hb⟩; refine ⟨_, rfl, ?_⟩; have n0_ := Aside0.mk (below_step (by repeat (first | (with_reducible first | exact HB.out | apply below_alloc | apply pw_below_drewN | apply below_drew1) | exact HB.out)) hb); clear HB; have HB := n0_; clear n0_; (try clear hb); (try clear hb2); (try clear hk); (try clear hi)) | ((with_reducible refine gate_callee (f := 16) rfl ?_); refine goesL_ (some 20) rfl rfl Tryd.func16 (by kernel_rfl) rfl #[.slice A0 l0.length c0, .int .i64 (wrap64 (Int.tmod a2 64))] rfl (by (try simp only [List.map_toArray, List.map_cons, List.map_nil]); first | done | rfl | (simp only [List.length_drop, List.length_take]; rfl)) ?_; (with_reducible refine (epitomeref04_Fit.calls k _ _ l0 (wrap64 (Int.tmod a2 64)) t102 _ ?side1 ?side2 A5.out).mono ?_); (case side1 => repeat (first | exact (Kd.C_below HR0.out HB.out) | (with_reducible refine Kd.C_alloc ?_ _) | (with_reducible refine Kd.C_drewN ?_ _) | (with_reducible refine Kd.C_drew ?_))); (case side2 => exact HC0.out); rintro e w24 ⟨v103, rfl, ho0, hb⟩; refine ⟨_, rfl, ?_⟩; have n0_ := Aside0.mk (Kd.R_lower ho0 (below_size (by repeat (first | (with_reducible first | exact HB.out | apply below_alloc | apply pw_below_drewN | apply below_drew1) | exact HB.out)))); have n1_ := Aside0.mk (below_step (by repeat (first | (with_reducible first | exact HB.out | apply below_alloc | apply pw_below_drewN | apply below_drew1) | exact HB.out)) hb); clear HB; have HO104 := n0_; have HB := n1_; clear n0_ n1_; (try clear hb); (try clear hb2); (try clear hk); (try clear hi); (try clear ho0); (try clear A5)) | ((with_reducible refine gate_callee (f := 16) rfl ?_); refine goesL_ (some 23) rfl rfl Tryd.func16 (by kernel_rfl) rfl #[.slice A1 l1.length c1, .int .i64 (wrap64 (Int.tmod a2 64))] rfl (by (try simp only [List.map_toArray, List.map_cons, List.map_nil]); first | done | rfl | (simp only [List.length_drop, List.length_take]; rfl)) ?_; (with_reducible refine (epitomeref04_Fit.calls k _ _ l1 (wrap64 (Int.tmod a2 64)) t105 _ ?side1 ?side2 A6.out).mono ?_); (case side1 => repeat (first | exact (Kd.C_below HR1.out HB.out) | (with_reducible refine Kd.C_alloc ?_ _) | (with_reducible refine Kd.C_drewN ?_ _) | (with_reducible refine Kd.C_drew ?_))); (case side2 => exact HC1.out); rintro e w25 ⟨v106, rfl, ho0, hb⟩; refine ⟨_, rfl, ?_⟩; have n0_ := Aside0.mk (Kd.R_elder' (by (with_reducible repeat (first | apply Kd.R_alloc | apply Kd.R_drewN | apply Kd.R_drew)); exact HO104.out) (Kd.R_base ho0) hb); have n1_ := Aside0.mk (Kd.R_lower (Kd.R_new' ho0 (Kd.R_lt (by (with_reducible repeat (first | apply Kd.R_alloc | apply Kd.R_drewN | apply Kd.R_drew)); exact HO104.out))) (below_size (by repeat (first | (with_reducible first | exact HB.out | apply below_alloc | apply pw_below_drewN | apply below_drew1) | exact HB.out)))); have n2_ := Aside0.mk (below_step (by repeat (first | (with_reducible first | exact HB.out | apply below_alloc | apply pw_below_drewN | apply below_drew1) | exact HB.out)) hb); clear HO104; clear HB; have HO104 := n0_; have HO107 := n1_; have HB := n2_; clear n0_ n1_ n2_; (try clear hb); (try clear hb2); (try clear hk); (try clear hi); (try clear ho0); obtain ⟨Ao26, co26, eo26⟩ := Kd.R_slice HO104.out; subst eo26; obtain ⟨Ao27, co27, eo27⟩ := Kd.R_slice HO107.out; subst eo27; (try clear A6)) | ((with_reducible refine gate_callee (f := 19) rfl ?_); refine goesL_ (some 27) rfl rfl Tryd.func19 (by kernel_rfl) rfl #[.slice Ao26 t102.length co26, .slice Ao27 t105.length co27] rfl (by (try simp only [List.map_toArray, List.map_cons, List.map_nil]); first | done | rfl | (simp only [List.length_drop, List.length_take]; rfl)) ?_; (with_reducible refine (under_Meet.calls k _ _ t102 _ _ t105 t108 t109 t110 _ ?side1 ?side2 ?side3 ?side4 ?side5 A7.out).mono ?_); (case side1 => first | (with_reducible exact HG.out) | exact Glob.below HG.out (by repeat (first | (with_reducible first | exact HB.out | apply below_alloc | apply pw_below_drewN | apply below_drew1) | exact HB.out)) | exact Glob.drawn HG.out (by repeat (first | exact Drawn0.refl _ | apply Drawn0.step))); (case side2 => repeat (first | exact (Kd.R_reads' HO104.out).2.2 | (with_reducible refine Kd.C_alloc ?_ _) | (with_reducible refine Kd.C_drewN ?_ _) | (with_reducible refine Kd.C_drew ?_))); (case side3 => exact (Kd.R_reads' HO104.out).2.1); (case side4 => repeat (first | exact (Kd.R_reads' HO107.out).2.2 | (with_reducible refine Kd.C_alloc ?_ _) | (with_reducible refine Kd.C_drewN ?_ _) | (with_reducible refine Kd.C_drew ?_))); (case side5 => exact (Kd.R_reads' HO107.out).2.1); rintro e w28 ⟨v111, v113, rfl, ho0, ho1, hb⟩; refine ⟨_, rfl, ?_⟩; have n0_ := Aside0.mk (Kd.R_mono (Kd.R_told (Kd.R_told (Kd.R_old (by (with_reducible repeat (first | apply Kd.R_alloc | apply Kd.R_drewN | apply Kd.R_drew)); exact HO104.out) hb) (Kd.R_base ho0)) (Kd.R_base ho1)) (fun _ h_ => h_.1)); have n1_ := Aside0.mk (Kd.R_mono (Kd.R_told (Kd.R_told (Kd.R_old (by (with_reducible repeat (first | apply Kd.R_alloc | apply Kd.R_drewN | apply Kd.R_drew)); exact HO107.out) hb) (Kd.R_base ho0)) (Kd.R_base ho1)) (fun _ h_ => h_.1)); have n2_ := Aside0.mk (Kd.R_lower (Kd.R_new' (Kd.R_new' ho0 (Kd.R_lt (by (with_reducible repeat (first | apply Kd.R_alloc | apply Kd.R_drewN | apply Kd.R_drew)); exact HO104.out))) (Kd.R_lt (by (with_reducible repeat (first | apply Kd.R_alloc | apply Kd.R_drewN | apply Kd.R_drew)); exact HO107.out))) (below_size (by repeat (first | (with_reducible first | exact HB.out | apply below_alloc | apply pw_below_drewN | apply below_drew1) | exact HB.out)))); have n3_ := Aside0.mk (Kd.R_lower (Kd.R_new' (Kd.R_new' ho1 (Kd.R_lt (by (with_reducible repeat (first | apply Kd.R_alloc | apply Kd.R_drewN | apply Kd.R_drew)); exact HO104.out))) (Kd.R_lt (by (with_reducible repeat (first | apply Kd.R_alloc | apply Kd.R_drewN | apply Kd.R_drew)); exact HO107.out))) (below_size (by repeat (first | (with_reducible first | exact HB.out | apply below_alloc | apply pw_below_drewN | apply below_drew1) | exact HB.out)))); have n4_ := Aside0.mk (below_step (by repeat (first | (with_reducible first | exact HB.out | apply below_alloc | apply pw_below_drewN | apply below_drew1) | exact HB.out)) hb); clear HO104; clear HO107; clear HB; have HO104 := n0_; have HO107 := n1_; have HO112 := n2_; have HO114 := n3_; have HB := n4_; clear n0_ n1_ n2_ n3_ n4_; (try clear hb); (try clear hb2); (try clear hk); (try clear hi); (try clear ho0); (try clear ho1); obtain ⟨Ao29, co29, eo29⟩ := Kd.R_slice HO112.out; subst eo29) | (go_at_call 21; (with_reducible refine (op_In.calls k _ _ t108 t115 _ ?side1 ?side2 ?side3 A10.out).mono ?_); (case side1 => first | (with_reducible exact HG.out) | exact Glob.below HG.out (by repeat (first | (with_reducible first | exact HB.out | apply below_alloc | apply pw_below_drewN | apply below_drew1) | exact HB.out)) | exact Glob.drawn HG.out (by repeat (first | exact Drawn0.refl _ | apply Drawn0.step))); (case side2 => repeat (first | exact (Kd.R_reads' HO112.out).2.2 | (with_reducible refine Kd.C_alloc ?_ _) | (with_reducible refine Kd.C_drewN ?_ _) | (with_reducible refine Kd.C_drew ?_))); (case side3 => exact (Kd.R_reads' HO112.out).2.1); rintro e w30 ⟨rfl, hb⟩; have n0_ := Aside0.mk (Kd.R_below (by (with_reducible repeat (first | apply Kd.R_alloc | apply Kd.R_drewN | apply Kd.R_drew)); exact HO104.out) hb); have n1_ := Aside0.mk (Kd.R_below (by (with_reducible repeat (first | apply Kd.R_alloc | apply Kd.R_drewN | apply Kd.R_drew)); exact HO107.out) hb); have n2_ := Aside0.mk (Kd.R_below (by (with_reducible repeat (first | apply Kd.R_alloc | apply Kd.R_drewN | apply Kd.R_drew)); exact HO112.out) hb); have n3_ := Aside0.mk (Kd.R_below (by (with_reducible repeat (first | apply Kd.R_alloc | apply Kd.R_drewN | apply Kd.R_drew)); exact HO114.out) hb); have n4_ := Aside0.mk (below_step (by repeat (first | (with_reducible first | exact HB.out | apply below_alloc | apply pw_below_drewN | apply below_drew1) | exact HB.out)) hb); clear HO104; clear HO107; clear HO112; clear HO114; clear HB; have HO104 := n0_; have HO107 := n1_; have HO112 := n2_; have HO114 := n3_; have HB := n4_; clear n0_ n1_ n2_ n3_ n4_; (try clear hb); (try clear hb2); (try clear hk); (try clear hi); (try clear A10)) | (go_at_call 22; (with_reducible refine (op_Out.calls k _ _ t105 t116 _ ?side1 ?side2 ?side3 A11.out).mono ?_); (case side1 => first | (with_reducible exact HG.out) | exact Glob.below HG.out (by repeat (first | (with_reducible first | exact HB.out | apply below_alloc | apply pw_below_drewN | apply below_drew1) | exact HB.out)) | exact Glob.drawn HG.out (by repeat (first | exact Drawn0.refl _ | apply Drawn0.step))); (case side2 => repeat (first | exact (Kd.R_reads' HO107.out).2.2 | (with_reducible refine Kd.C_alloc ?_ _) | (with_reducible refine Kd.C_drewN ?_ _) | (with_reducible refine Kd.C_drew ?_))); (case side3 => exact (Kd.R_reads' HO107.out).2.1); rintro e w31 ⟨rfl, hb⟩; have n0_ := Aside0.mk (Kd.R_below (by (with_reducible repeat (first | apply Kd.R_alloc | apply Kd.R_drewN | apply Kd.R_drew)); exact HO104.out) hb); have n1_ := Aside0.mk (Kd.R_below (by (with_reducible repeat (first | apply Kd.R_alloc | apply Kd.R_drewN | apply Kd.R_drew)); exact HO107.out) hb); have n2_ := Aside0.mk (Kd.R_below (by (with_reducible repeat (first | apply Kd.R_alloc | apply Kd.R_drewN | apply Kd.R_drew)); exact HO112.out) hb); have n3_ := Aside0.mk (Kd.R_below (by (with_reducible repeat (first | apply Kd.R_alloc | apply Kd.R_drewN | apply Kd.R_drew)); exact HO114.out) hb); have n4_ := Aside0.mk (below_step (by repeat (first | (with_reducible first | exact HB.out | apply below_alloc | apply pw_below_drewN | apply below_drew1) | exact HB.out)) hb); clear HO104; clear HO107; clear HO112; clear HO114; clear HB; have HO104 := n0_; have HO107 := n1_; have HO112 := n2_; have HO114 := n3_; have HB := n4_; clear n0_ n1_ n2_ n3_ n4_; (try clear hb); (try clear hb2); (try clear hk); (try clear hi); obtain ⟨Ao32, co32, eo32⟩ := Kd.R_slice HO114.out; subst eo32; (try clear A11)) | (go_at_call 21; (with_reducible refine (op_In.calls k _ _ t109 t117 _ ?side1 ?side2 ?side3 A13.out).mono ?_); (case side1 => first | (with_reducible exact HG.out) | exact Glob.below HG.out (by repeat (first | (with_reducible first | exact HB.out | apply below_alloc | apply pw_below_drewN | apply below_drew1) | exact HB.out)) | exact Glob.drawn HG.out (by repeat (first | exact Drawn0.refl _ | apply Drawn0.step))); (case side2 => repeat (first | exact (Kd.R_reads' HO114.out).2.2 | (with_reducible refine Kd.C_alloc ?_ _) | (with_reducible refine Kd.C_drewN ?_ _) | (with_reducible refine Kd.C_drew ?_))); (case side3 => exact (Kd.R_reads' HO114.out).2.1); rintro e w33 ⟨rfl, hb⟩; have n0_ := Aside0.mk (Kd.R_below (by (with_reducible repeat (first | apply Kd.R_alloc | apply Kd.R_drewN | apply Kd.R_drew)); exact HO104.out) hb); have n1_ := Aside0.mk (Kd.R_below (by (with_reducible repeat (first | apply Kd.R_alloc | apply Kd.R_drewN | apply Kd.R_drew)); exact HO107.out) hb); have n2_ := Aside0.mk (Kd.R_below (by (with_reducible repeat (first | apply Kd.R_alloc | apply Kd.R_drewN | apply Kd.R_drew)); exact HO112.out) hb); have n3_ := Aside0.mk (Kd.R_below (by (with_reducible repeat (first | apply Kd.R_alloc | apply Kd.R_drewN | apply Kd.R_drew)); exact HO114.out) hb); have n4_ := Aside0.mk (below_step (by repeat (first | (with_reducible first | exact HB.out | apply below_alloc | apply pw_below_drewN | apply below_drew1) | exact HB.out)) hb); clear HO104; clear HO107; clear HO112; clear HO114; clear HB; have HO104 := n0_; have HO107 := n1_; have HO112 := n2_; have HO114 := n3_; have HB := n4_; clear n0_ n1_ n2_ n3_ n4_; (try clear hb); (try clear hb2); (try clear hk); (try clear hi); (try clear A13)) | (go_at_call 22; (with_reducible refine (op_Out.calls k _ _ t102 t118 _ ?side1 ?side2 ?side3 A14.out).mono ?_); (case side1 => first | (with_reducible exact HG.out) | exact Glob.below HG.out (by repeat (first | (with_reducible first | exact HB.out | apply below_alloc | apply pw_below_drewN | apply below_drew1) | exact HB.out)) | exact Glob.drawn HG.out (by repeat (first | exact Drawn0.refl _ | apply Drawn0.step))); (case side2 => repeat (first | exact (Kd.R_reads' HO104.out).2.2 | (with_reducible refine Kd.C_alloc ?_ _) | (with_reducible refine Kd.C_drewN ?_ _) | (with_reducible refine Kd.C_drew ?_))); (case side3 => exact (Kd.R_reads' HO104.out).2.1); rintro e w34 ⟨rfl, hb⟩; have n0_ := Aside0.mk (Kd.R_below (by (with_reducible repeat (first | apply Kd.R_alloc | apply Kd.R_drewN | apply Kd.R_drew)); exact HO104.out) hb); have n1_ := Aside0.mk (Kd.R_below (by (with_reducible repeat (first | apply Kd.R_alloc | apply Kd.R_drewN | apply Kd.R_drew)); exact HO107.out) hb); have n2_ := Aside0.mk (Kd.R_below (by (with_reducible repeat (first | apply Kd.R_alloc | apply Kd.R_drewN | apply Kd.R_drew)); exact HO112.out) hb); have n3_ := Aside0.mk (Kd.R_below (by (with_reducible repeat (first | apply Kd.R_alloc | apply Kd.R_drewN | apply Kd.R_drew)); exact HO114.out) hb); have n4_ := Aside0.mk (below_step (by repeat (first | (with_reducible first | exact HB.out | apply below_alloc | apply pw_below_drewN | apply below_drew1) | exact HB.out)) hb); clear HO104; clear HO107; clear HO112; clear HO114; clear HB; have HO104 := n0_; have HO107 := n1_; have HO112 := n2_; have HO114 := n3_; have HB := n4_; clear n0_ n1_ n2_ n3_ n4_; (try clear hb); (try clear hb2); (try clear hk); (try clear hi); (try clear A14)) | (go_at_call 22; (with_reducible refine (op_Out.calls k _ _ t108 t119 _ ?side1 ?side2 ?side3 A16.out).mono ?_); (case side1 => first | (with_reducible exact HG.out) | exact Glob.below HG.out (by repeat (first | (with_reducible first | exact HB.out | apply below_alloc | apply pw_below_drewN | apply below_drew1) | exact HB.out)) | exact Glob.drawn HG.out (by repeat (first | exact Drawn0.refl _ | apply Drawn0.step))); (case side2 => repeat (first | exact (Kd.R_reads' HO112.out).2.2 | (with_reducible refine Kd.C_alloc ?_ _) | (with_reducible refine Kd.C_drewN ?_ _) | (with_reducible refine Kd.C_drew ?_))); (case side3 => exact (Kd.R_reads' HO112.out).2.1); rintro e w35 ⟨rfl, hb⟩; have n0_ := Aside0.mk (Kd.R_below (by (with_reducible repeat (first | apply Kd.R_alloc | apply Kd.R_drewN | apply Kd.R_drew)); exact HO104.out) hb); have n1_ := Aside0.mk (Kd.R_below (by (with_reducible repeat (first | apply Kd.R_alloc | apply Kd.R_drewN | apply Kd.R_drew)); exact HO107.out) hb); have n2_ := Aside0.mk (Kd.R_below (by (with_reducible repeat (first | apply Kd.R_alloc | apply Kd.R_drewN | apply Kd.R_drew)); exact HO112.out) hb); have n3_ := Aside0.mk (Kd.R_below (by (with_reducible repeat (first | apply Kd.R_alloc | apply Kd.R_drewN | apply Kd.R_drew)); exact HO114.out) hb); have n4_ := Aside0.mk (below_step (by repeat (first | (with_reducible first | exact HB.out | apply below_alloc | apply pw_below_drewN | apply below_drew1) | exact HB.out)) hb); clear HO104; clear HO107; clear HO112; clear HO114; clear HB; have HO104 := n0_; have HO107 := n1_; have HO112 := n2_; have HO114 := n3_; have HB := n4_; clear n0_ n1_ n2_ n3_ n4_; (try clear hb); (try clear hb2); (try clear hk); (try clear hi); (try clear A16)) | (go_at_call 22; (with_reducible refine (op_Out.calls k _ _ t109 t120 _ ?side1 ?side2 ?side3 A17.out).mono ?_); (case side1 => first | (with_reducible exact HG.out) | exact Glob.below HG.out (by repeat (first | (with_reducible first | exact HB.out | apply below_alloc | apply pw_below_drewN | apply below_drew1) | exact HB.out)) | exact Glob.drawn HG.out (by repeat (first | exact Drawn0.refl _ | apply Drawn0.step))); (case side2 => repeat (first | exact (Kd.R_reads' HO114.out).2.2 | (with_reducible refine Kd.C_alloc ?_ _) | (with_reducible refine Kd.C_drewN ?_ _) | (with_reducible refine Kd.C_drew ?_))); (case side3 => exact (Kd.R_reads' HO114.out).2.1); rintro e w36 ⟨rfl, hb⟩; have n0_ := Aside0.mk (Kd.R_below (by (with_reducible repeat (first | apply Kd.R_alloc | apply Kd.R_drewN | apply Kd.R_drew)); exact HO104.out) hb); have n1_ := Aside0.mk (Kd.R_below (by (with_reducible repeat (first | apply Kd.R_alloc | apply Kd.R_drewN | apply Kd.R_drew)); exact HO107.out) hb); have n2_ := Aside0.mk (Kd.R_below (by (with_reducible repeat (first | apply Kd.R_alloc | apply Kd.R_drewN | apply Kd.R_drew)); exact HO112.out) hb); have n3_ := Aside0.mk (Kd.R_below (by (with_reducible repeat (first | apply Kd.R_alloc | apply Kd.R_drewN | apply Kd.R_drew)); exact HO114.out) hb); have n4_ := Aside0.mk (below_step (by repeat (first | (with_reducible first | exact HB.out | apply below_alloc | apply pw_below_drewN | apply below_drew1) | exact HB.out)) hb); clear HO104; clear HO107; clear HO112; clear HO114; clear HB; have HO104 := n0_; have HO107 := n1_; have HO112 := n2_; have HO114 := n3_; have HB := n4_; clear n0_ n1_ n2_ n3_ n4_; (try clear hb); (try clear hb2); (try clear hk); (try clear hi); (try clear A17)) | (go_at_call 23; (with_reducible refine (epitomelaw12_drops.calls k _ _ t105 t121 _ ?side1 ?side2 A19.out).mono ?_); (case side1 => repeat (first | exact (Kd.R_reads' HO107.out).2.2 | (with_reducible refine Kd.C_alloc ?_ _) | (with_reducible refine Kd.C_drewN ?_ _) | (with_reducible refine Kd.C_drew ?_))); (case side2 => exact (Kd.R_reads' HO107.out).2.1); rintro e w' ⟨rfl, ⟨nd, rfl⟩⟩; (try clear A19)) | (go_at_call 23; (with_reducible refine (epitomelaw12_drops.calls k _ _ t108 t122 _ ?side1 ?side2 A20.out).mono ?_); (case side1 => repeat (first | exact (Kd.R_reads' HO112.out).2.2 | (with_reducible refine Kd.C_alloc ?_ _) | (with_reducible refine Kd.C_drewN ?_ _) | (with_reducible refine Kd.C_drew ?_))); (case side2 => exact (Kd.R_reads' HO112.out).2.1); rintro e w' ⟨rfl, ⟨nd, rfl⟩⟩; (try clear A20)) | (go_at_call 23; (with_reducible refine (epitomelaw12_drops.calls k _ _ t102 t123 _ ?side1 ?side2 A21.out).mono ?_); (case side1 => repeat (first | exact (Kd.R_reads' HO104.out).2.2 | (with_reducible refine Kd.C_alloc ?_ _) | (with_reducible refine Kd.C_drewN ?_ _) | (with_reducible refine Kd.C_drew ?_))); (case side2 => exact (Kd.R_reads' HO104.out).2.1); rintro e w' ⟨rfl, ⟨nd, rfl⟩⟩; (try clear A21)) | (go_at_call 23; (with_reducible refine (epitomelaw12_drops.calls k _ _ t109 t124 _ ?side1 ?side2 A22.out).mono ?_); (case side1 => repeat (first | exact (Kd.R_reads' HO114.out).2.2 | (with_reducible refine Kd.C_alloc ?_ _) | (with_reducible refine Kd.C_drewN ?_ _) | (with_reducible refine Kd.C_drew ?_))); (case side2 => exact (Kd.R_reads' HO114.out).2.1); rintro e w' ⟨rfl, ⟨nd, rfl⟩⟩; (try clear A22)))
            go_ret
            exact ⟨by first | rfl | (simp [errW_none, errW_some] <;> rfl) | (simp [*, errW_none, errW_some] <;> rfl), by repeat (first | (with_reducible first | exact HB.out | apply below_alloc | apply pw_below_drewN | apply below_drew1) | exact HB.out)⟩
          · rw [if_neg c18] at H
            have c18b0 : (t119 == t120) = false := beq_eq_false_iff_ne.mpr c18
            have c18b1 : (t119 != t120) = true := bne_iff_ne.mpr c18
            exact Bool.noConfusion ((Option.some.inj H).trans hr_.out)
        · rw [if_neg c15] at H
          have c15b0 : (t117 == t118) = false := beq_eq_false_iff_ne.mpr c15
          have c15b1 : (t117 != t118) = true := bne_iff_ne.mpr c15
          exact Bool.noConfusion ((Option.some.inj H).trans hr_.out)
      · rw [if_neg c12] at H
        have c12b0 : (t115 == t116) = false := beq_eq_false_iff_ne.mpr c12
        have c12b1 : (t115 != t116) = true := bne_iff_ne.mpr c12
        exact Bool.noConfusion ((Option.some.inj H).trans hr_.out)
    · rw [if_neg c9] at H
      have c9b0 : (t110 == 0) = false := beq_eq_false_iff_ne.mpr c9
      have c9b1 : (t110 != 0) = true := bne_iff_ne.mpr c9
      exact Bool.noConfusion ((Option.some.inj H).trans hr_.out)
  · replace c8 := Bool.eq_false_iff.mpr c8
    subst c8
    have H1 : (some false) = some r := by rw [if_neg (show ¬ (false = true) by decide)] at H; exact H
    clear H
    have H := H1
    clear H1
    exact Bool.noConfusion ((Option.some.inj H).trans hr_.out)
end Go.Proofs.YtabodcedlhahfaaDoor.F
end
