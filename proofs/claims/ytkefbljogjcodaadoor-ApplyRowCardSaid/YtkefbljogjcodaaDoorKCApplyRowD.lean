import Derived.Test.YtkefbljogjcodaaDoorKCApplyRowC
import Derived.Below
import Derived.Deep.Draws
import Derived.Deep.AppendLies
import Derived.Maps.AppendAt
import Derived.OwnWalk
import Derived.Laws.BytesArg
import Derived.Laws.MakeOwn
import Derived.Laws.OwnMore
import Derived.Deep.OwnRows
import Derived.Tactics
import Derived.Lib.ConvBytes
import Derived.Laws.Slices
import Derived.WalkKit
import Derived.KernelRfl
import Derived.RowKit3
import Derived.Deep.LoopGhost
import Derived.Deep.QuietTactic
import Derived.BigQuiet
import Derived.WideLaws
import Derived.Deep.DeepCutAuto
import Derived.Deep.CutBlock
import Derived.Deep.RegionHeld3
import Derived.Laws.Rows
import Derived.Lib.AppendStr
import Derived.ArgAppend
import Derived.Laws.IdiomCopy
import Derived.RowKit
import Derived.OrdersHeld
import Derived.Laws.BitsLemmas
import Derived.Laws.StructEq
import Derived.Test.YtkefbljogjcodaaDoorProg
import Derived.Handy
import Derived.Shelf.Unicode.DecodeSlow
import Derived.Ground.NamesProg
import Derived.Shelf.Unicode.ValidAny
import Derived.Laws.IdiomStrings
import Derived.Laws.Cover4
import Derived.Laws.RangeString
import Derived.Laws.RangeAny
import Derived.Lib.RuneCount
section
namespace Go.Proofs.YtkefbljogjcodaaDoor.F
open Go.RowKit Go.Proofs.YtkefbljogjcodaaDoorW.PrintWords Go.Proofs.YtkefbljogjcodaaDoorW.PrintLast Go.Proofs.YtkefbljogjcodaaDoorW.PrintMore
attribute [local go_sem] max2_int min2_int max_two min_two max_three min_three max_four min_four cell_setCell_isSome
set_option linter.unusedVariables false
set_option linter.unusedSimpArgs false
def epitomeref07_To.l0 : Nat → List (S26) → ByteArray → List Int → ByteArray → Int → Int → Option (ByteArray × Int)
  | 0, _, _, _, _, _, _ => none
  | k + 1, x0, x1, x7, x9, x10, x11 => if x11 < (x0.length : Int) then (if 0 ≤ x11 then (if ((rd_T26 x0 x11).f0) = 2 then (if x9.size + ((rd_T26 x0 x11).f2).size ≤ 9223372036854775807 then (epitomeref07_To.l0 k x0 x1 x7 (x9 ++ ((rd_T26 x0 x11).f2)) x10 (wrap64 (x11 + 1))) else (none)) else (if ((rd_T26 x0 x11).f0) = 1 then (if 0 ≤ x10 then (if x10 < (x7.length : Int) then (if 0 ≤ (wrap64 (x10 + ((rd_T26 x0 x11).f1))) then (if (wrap64 (x10 + ((rd_T26 x0 x11).f1))) < (x7.length : Int) then (if 0 ≤ (rd x7 x10) then (if (rd x7 x10) ≤ (rd x7 (wrap64 (x10 + ((rd_T26 x0 x11).f1)))) then (if (rd x7 (wrap64 (x10 + ((rd_T26 x0 x11).f1)))) ≤ (x1.size : Int) then (if x9.size + (x1.extract ((rd x7 x10) : Int).toNat ((rd x7 (wrap64 (x10 + ((rd_T26 x0 x11).f1)))) : Int).toNat).size ≤ 9223372036854775807 then (epitomeref07_To.l0 k x0 x1 x7 (x9 ++ (x1.extract ((rd x7 x10) : Int).toNat ((rd x7 (wrap64 (x10 + ((rd_T26 x0 x11).f1)))) : Int).toNat)) (wrap64 (x10 + ((rd_T26 x0 x11).f1))) (wrap64 (x11 + 1))) else (none)) else (none)) else (none)) else (none)) else (none)) else (none)) else (none)) else (none)) else (epitomeref07_To.l0 k x0 x1 x7 x9 (wrap64 (x10 + ((rd_T26 x0 x11).f1))) (wrap64 (x11 + 1))))) else (none)) else (some (x9, 0))
def epitomeref07_To.f (k : Nat) (l0 : List (S26)) (a1 : ByteArray) : Option (ByteArray × Int) := (epitomeref04_May.f k l0).bind fun t101 => (if t101 = 0 then ((epitomeref01_Starts.f k a1).bind fun bt102 => (if bt102.2 = true then ((epitomeref04_In.f k l0).bind fun t106 => (if (wrap64 ((bt102.1.length : Int) - 1)) = t106 then (epitomeref07_To.l0 k l0 a1 bt102.1 (⟨#[]⟩ : ByteArray) 0 0) else (some ((⟨#[]⟩ : ByteArray), 5)))) else (some ((⟨#[]⟩ : ByteArray), 3)))) else (some ((⟨#[]⟩ : ByteArray), t101)))
set_option maxHeartbeats 8000000 in
set_option maxRecDepth 100000 in
theorem epitomeref07_To.calls (k : Nat) (A0 : Option Addr) (c0 : Nat) (l0 : List (S26)) (a1 : ByteArray) (r1 : ByteArray) (r2 : Int) (w : World) (hr0 : Kd.C k26 w A0 l0.length l0) (hc0 : l0.length ≤ c0) (h : epitomeref07_To.f k l0 a1 = some (r1, r2)) :
    Calls Tryd.prog 79 #[.slice A0 l0.length c0, .string a1] w fun e w' => e = .returned (.tuple #[.string r1, .int .i64 r2]) ∧ Below w.heap.size w w' := by
  have HR0 := Aside0.mk hr0
  have HC0 := Aside0.mk hc0
  clear hr0 hc0
  have HB := Aside0.mk (Below.refl w.heap.size w)
  have H : ((epitomeref04_May.f k l0).bind fun t101 => (if t101 = 0 then ((epitomeref01_Starts.f k a1).bind fun bt102 => (if bt102.2 = true then ((epitomeref04_In.f k l0).bind fun t106 => (if (wrap64 ((bt102.1.length : Int) - 1)) = t106 then (epitomeref07_To.l0 k l0 a1 bt102.1 (⟨#[]⟩ : ByteArray) 0 0) else (some ((⟨#[]⟩ : ByteArray), 5)))) else (some ((⟨#[]⟩ : ByteArray), 3)))) else (some ((⟨#[]⟩ : ByteArray), t101)))) = some (r1, r2) := h
  clear h
  replace H := Option.bind_eq_some_iff.mp H
  obtain ⟨t101, A30, H⟩ := H
  replace H : (if t101 = 0 then ((epitomeref01_Starts.f k a1).bind fun bt102 => (if bt102.2 = true then ((epitomeref04_In.f k l0).bind fun t106 => (if (wrap64 ((bt102.1.length : Int) - 1)) = t106 then (epitomeref07_To.l0 k l0 a1 bt102.1 (⟨#[]⟩ : ByteArray) 0 0) else (some ((⟨#[]⟩ : ByteArray), 5)))) else (some ((⟨#[]⟩ : ByteArray), 3)))) else (some ((⟨#[]⟩ : ByteArray), t101))) = some (r1, r2) := H
  have A3 := Aside0.mk A30
  clear A30
  by_cases c4 : t101 = 0
  · rw [if_pos c4] at H
    have c4b0 : (t101 == 0) = true := beq_iff_eq.mpr c4
    have c4b1 : (t101 != 0) = false := bne_eq_false_iff_eq.mpr c4
    clear c4
    replace H := Option.bind_eq_some_iff.mp H
    obtain ⟨⟨t102, t103⟩, A50, H⟩ := H
    replace H : (if t103 = true then ((epitomeref04_In.f k l0).bind fun t106 => (if (wrap64 ((t102.length : Int) - 1)) = t106 then (epitomeref07_To.l0 k l0 a1 t102 (⟨#[]⟩ : ByteArray) 0 0) else (some ((⟨#[]⟩ : ByteArray), 5)))) else (some ((⟨#[]⟩ : ByteArray), 3))) = some (r1, r2) := H
    have A5 := Aside0.mk A50
    clear A50
    by_cases c6 : t103 = true
    · subst c6
      have H1 : ((epitomeref04_In.f k l0).bind fun t106 => (if (wrap64 ((t102.length : Int) - 1)) = t106 then (epitomeref07_To.l0 k l0 a1 t102 (⟨#[]⟩ : ByteArray) 0 0) else (some ((⟨#[]⟩ : ByteArray), 5)))) = some (r1, r2) := by rw [if_pos rfl] at H; exact H
      clear H
      have H := H1
      clear H1
      replace H := Option.bind_eq_some_iff.mp H
      obtain ⟨t106, A70, H⟩ := H
      replace H : (if (wrap64 ((t102.length : Int) - 1)) = t106 then (epitomeref07_To.l0 k l0 a1 t102 (⟨#[]⟩ : ByteArray) 0 0) else (some ((⟨#[]⟩ : ByteArray), 5))) = some (r1, r2) := H
      have A7 := Aside0.mk A70
      clear A70
      by_cases c8 : (wrap64 ((t102.length : Int) - 1)) = t106
      · rw [if_pos c8] at H
        have c8b0 : ((wrap64 ((t102.length : Int) - 1)) == t106) = true := beq_iff_eq.mpr c8
        have c8b1 : ((wrap64 ((t102.length : Int) - 1)) != t106) = false := bne_eq_false_iff_eq.mpr c8
        clear c8
        have H' := Aside0.mk H
        clear H
        go_enter Tryd.func79, Tryd.ntmps79
        go_wp2_with (first | (go_at_call 73; (with_reducible refine (epitomeref04_May.calls k _ _ l0 t101 _ ?side1 ?side2 A3.out).mono ?_); (case side1 => repeat (first | exact HR0.out | (with_reducible refine Kd.C_alloc ?_ _) | (with_reducible refine Kd.C_drewN ?_ _) | (with_reducible refine Kd.C_drew ?_))); (case side2 => exact HC0.out); rintro e w9 ⟨rfl, hb⟩; have n0_ := Aside0.mk (below_step (by repeat (first | (with_reducible first | exact HB.out | apply below_alloc | apply pw_below_drewN | apply below_drew1) | exact HB.out)) hb); clear HB; have HB := n0_; clear n0_; (try clear hb); (try clear hb2); (try clear hk); (try clear hi)) | (go_at_call 77; (with_reducible refine (epitomeref01_Starts.calls k a1 t102 true _ A5.out).mono ?_); rintro e w10 ⟨v104, rfl, ho0, hb⟩; have n0_ := Aside0.mk (Kd.R_lower ho0 (below_size (by repeat (first | (with_reducible first | exact HB.out | apply below_alloc | apply pw_below_drewN | apply below_drew1) | exact HB.out)))); have n1_ := Aside0.mk (below_step (by repeat (first | (with_reducible first | exact HB.out | apply below_alloc | apply pw_below_drewN | apply below_drew1) | exact HB.out)) hb); clear HB; have HO105 := n0_; have HB := n1_; clear n0_ n1_; (try clear hb); (try clear hb2); (try clear hk); (try clear hi); (try clear ho0); obtain ⟨Ao11, co11, eo11⟩ := Kd.R_slice HO105.out; subst eo11) | (go_at_call 74; (with_reducible refine (epitomeref04_In.calls k _ _ l0 t106 _ ?side1 ?side2 A7.out).mono ?_); (case side1 => repeat (first | exact (Kd.C_below HR0.out HB.out) | (with_reducible refine Kd.C_alloc ?_ _) | (with_reducible refine Kd.C_drewN ?_ _) | (with_reducible refine Kd.C_drew ?_))); (case side2 => exact HC0.out); rintro e w12 ⟨rfl, hb⟩; have n0_ := Aside0.mk (Kd.R_below (by (with_reducible repeat (first | apply Kd.R_alloc | apply Kd.R_drewN | apply Kd.R_drew)); exact HO105.out) hb); have n1_ := Aside0.mk (below_step (by repeat (first | (with_reducible first | exact HB.out | apply below_alloc | apply pw_below_drewN | apply below_drew1) | exact HB.out)) hb); clear HO105; clear HB; have HO105 := n0_; have HB := n1_; clear n0_ n1_; (try clear hb); (try clear hb2); (try clear hk); (try clear hi)))
        repeat (go_quiet (first | (go_at_call 73; (with_reducible refine (epitomeref04_May.calls k _ _ l0 t101 _ ?side1 ?side2 A3.out).mono ?_); (case side1 => repeat (first | exact HR0.out | (with_reducible refine Kd.C_alloc ?_ _) | (with_reducible refine Kd.C_drewN ?_ _) | (with_reducible refine Kd.C_drew ?_))); (case side2 => exact HC0.out); rintro e w9 ⟨rfl, hb⟩; have n0_ := Aside0.mk (below_step (by repeat (first | (with_reducible first | exact HB.out | apply below_alloc | apply pw_below_drewN | apply below_drew1) | exact HB.out)) hb); clear HB; have HB := n0_; clear n0_; (try clear hb); (try clear hb2); (try clear hk); (try clear hi)) | (go_at_call 77; (with_reducible refine (epitomeref01_Starts.calls k a1 t102 true _ A5.out).mono ?_); rintro e w10 ⟨v104, rfl, ho0, hb⟩; have n0_ := Aside0.mk (Kd.R_lower ho0 (below_size (by repeat (first | (with_reducible first | exact HB.out | apply below_alloc | apply pw_below_drewN | apply below_drew1) | exact HB.out)))); have n1_ := Aside0.mk (below_step (by repeat (first | (with_reducible first | exact HB.out | apply below_alloc | apply pw_below_drewN | apply below_drew1) | exact HB.out)) hb); clear HB; have HO105 := n0_; have HB := n1_; clear n0_ n1_; (try clear hb); (try clear hb2); (try clear hk); (try clear hi); (try clear ho0); obtain ⟨Ao11, co11, eo11⟩ := Kd.R_slice HO105.out; subst eo11) | (go_at_call 74; (with_reducible refine (epitomeref04_In.calls k _ _ l0 t106 _ ?side1 ?side2 A7.out).mono ?_); (case side1 => repeat (first | exact (Kd.C_below HR0.out HB.out) | (with_reducible refine Kd.C_alloc ?_ _) | (with_reducible refine Kd.C_drewN ?_ _) | (with_reducible refine Kd.C_drew ?_))); (case side2 => exact HC0.out); rintro e w12 ⟨rfl, hb⟩; have n0_ := Aside0.mk (Kd.R_below (by (with_reducible repeat (first | apply Kd.R_alloc | apply Kd.R_drewN | apply Kd.R_drew)); exact HO105.out) hb); have n1_ := Aside0.mk (below_step (by repeat (first | (with_reducible first | exact HB.out | apply below_alloc | apply pw_below_drewN | apply below_drew1) | exact HB.out)) hb); clear HO105; clear HB; have HO105 := n0_; have HB := n1_; clear n0_ n1_; (try clear hb); (try clear hb2); (try clear hk); (try clear hi))); try go_wp2_with (first | (go_at_call 73; (with_reducible refine (epitomeref04_May.calls k _ _ l0 t101 _ ?side1 ?side2 A3.out).mono ?_); (case side1 => repeat (first | exact HR0.out | (with_reducible refine Kd.C_alloc ?_ _) | (with_reducible refine Kd.C_drewN ?_ _) | (with_reducible refine Kd.C_drew ?_))); (case side2 => exact HC0.out); rintro e w9 ⟨rfl, hb⟩; have n0_ := Aside0.mk (below_step (by repeat (first | (with_reducible first | exact HB.out | apply below_alloc | apply pw_below_drewN | apply below_drew1) | exact HB.out)) hb); clear HB; have HB := n0_; clear n0_; (try clear hb); (try clear hb2); (try clear hk); (try clear hi)) | (go_at_call 77; (with_reducible refine (epitomeref01_Starts.calls k a1 t102 true _ A5.out).mono ?_); rintro e w10 ⟨v104, rfl, ho0, hb⟩; have n0_ := Aside0.mk (Kd.R_lower ho0 (below_size (by repeat (first | (with_reducible first | exact HB.out | apply below_alloc | apply pw_below_drewN | apply below_drew1) | exact HB.out)))); have n1_ := Aside0.mk (below_step (by repeat (first | (with_reducible first | exact HB.out | apply below_alloc | apply pw_below_drewN | apply below_drew1) | exact HB.out)) hb); clear HB; have HO105 := n0_; have HB := n1_; clear n0_ n1_; (try clear hb); (try clear hb2); (try clear hk); (try clear hi); (try clear ho0); obtain ⟨Ao11, co11, eo11⟩ := Kd.R_slice HO105.out; subst eo11) | (go_at_call 74; (with_reducible refine (epitomeref04_In.calls k _ _ l0 t106 _ ?side1 ?side2 A7.out).mono ?_); (case side1 => repeat (first | exact (Kd.C_below HR0.out HB.out) | (with_reducible refine Kd.C_alloc ?_ _) | (with_reducible refine Kd.C_drewN ?_ _) | (with_reducible refine Kd.C_drew ?_))); (case side2 => exact HC0.out); rintro e w12 ⟨rfl, hb⟩; have n0_ := Aside0.mk (Kd.R_below (by (with_reducible repeat (first | apply Kd.R_alloc | apply Kd.R_drewN | apply Kd.R_drew)); exact HO105.out) hb); have n1_ := Aside0.mk (below_step (by repeat (first | (with_reducible first | exact HB.out | apply below_alloc | apply pw_below_drewN | apply below_drew1) | exact HB.out)) hb); clear HO105; clear HB; have HO105 := n0_; have HB := n1_; clear n0_ n1_; (try clear hb); (try clear hb2); (try clear hk); (try clear hi))))
        go_loopg [9, 10, 11] k (fun kq v9 v10 v11 w' => ∃ (x9_1 : ByteArray) (x10_1 : Int) (x11_1 : Int), v9 = .string x9_1 ∧ v10 = .int .i64 x10_1 ∧ v11 = .int .i64 x11_1 ∧ Aside0 (epitomeref07_To.l0 kq l0 a1 t102 x9_1 x10_1 x11_1 = some (r1, r2)) ∧ Aside0 (kq ≤ k) ∧ Aside0 (Kd.R (Kd.int .i64) 3 w' w.heap.size (fun _ => True) (.slice Ao11 t102.length co11) t102) ∧ Aside0 (Below w.heap.size w w'))
        case atStart => exact ⟨((⟨#[]⟩ : ByteArray)), (0), (0), (by first | rfl | (simp; done) | (simp [*]; done)), (by first | rfl | (simp; done) | (simp [*]; done)), (by first | rfl | (simp; done) | (simp [*]; done)), H', ⟨Nat.le_refl _⟩, ⟨by (with_reducible repeat (first | apply Kd.R_alloc | apply Kd.R_drewN | apply Kd.R_drew)); exact HO105.out⟩, ⟨by repeat (first | (with_reducible first | exact HB.out | apply below_alloc | apply pw_below_drewN | apply below_drew1) | exact HB.out)⟩⟩
        case round =>
          clear H'
          try clear p2
          try clear c4
          try clear c4b0
          try clear c4b1
          try clear c6
          try clear p6
          try clear c7
          try clear c8
          try clear c8b0
          try clear c8b1
          obtain ⟨x9_1, x10_1, x11_1, rfl, rfl, rfl, HA, HK1, HO_7, HB⟩ := hrel
          cases gk with
          | zero => exact absurd HA.out (by simp [epitomeref07_To.l0])
          | succ k1 =>
            have H := HA.out
            clear HA
            simp only [epitomeref07_To.l0] at H
            by_cases c13 : x11_1 < (l0.length : Int)
            · rw [if_pos c13] at H
              have c13b0 : decide (x11_1 < (l0.length : Int)) = true := decide_eq_true c13
              clear c13
              by_cases c14 : 0 ≤ x11_1
              · rw [if_pos c14] at H
                have c14b0 : decide (0 ≤ x11_1) = true := decide_eq_true c14
                clear c14
                by_cases c15 : ((rd_T26 l0 x11_1).f0) = 2
                · rw [if_pos c15] at H
                  have c15b0 : (((rd_T26 l0 x11_1).f0) == 2) = true := beq_iff_eq.mpr c15
                  have c15b1 : (((rd_T26 l0 x11_1).f0) != 2) = false := bne_eq_false_iff_eq.mpr c15
                  clear c15
                  by_cases c16 : x9_1.size + ((rd_T26 l0 x11_1).f2).size ≤ 9223372036854775807
                  · rw [if_pos c16] at H
                    have c16b0 := eq_true c16
                    have c16b1 : decide (x9_1.size + ((rd_T26 l0 x11_1).f2).size ≤ 9223372036854775807) = true := decide_eq_true c16
                    try have c16b2 : (9223372036854775807 < x9_1.size + ((rd_T26 l0 x11_1).f2).size) = False := eq_false (Nat.not_lt.2 c16)
                    have H' := Aside0.mk H
                    clear H
                    have p107 : 0 ≤ (x11_1 : Int) := of_decide_eq_true (by first | (with_reducible assumption) | assumption)
                    have q107 : x11_1 < (l0.length : Int) := of_decide_eq_true (by first | (with_reducible assumption) | assumption)
                    obtain ⟨ad107, e107, hx107_0, hx107_1, hx107_2⟩ := at_T26 HR0.out x11_1 p107 q107
                    cases e107
                    replace hx107_0 := (HB.out.cell (World.block_lt_of_cell? w _ hx107_0)).trans hx107_0
                    replace hx107_1 := (HB.out.cell (World.block_lt_of_cell? w _ hx107_1)).trans hx107_1
                    replace hx107_2 := (HB.out.cell (World.block_lt_of_cell? w _ hx107_2)).trans hx107_2
                    replace p107 := eq_true p107
                    replace q107 := eq_true q107
                    have p108 : 0 ≤ (x11_1 : Int) := of_decide_eq_true (by first | (with_reducible assumption) | assumption)
                    have q108 : x11_1 < (l0.length : Int) := of_decide_eq_true (by first | (with_reducible assumption) | assumption)
                    obtain ⟨ad108, e108, hx108_0, hx108_1, hx108_2⟩ := at_T26 HR0.out x11_1 p108 q108
                    obtain rfl : ad107 = ad108 := (by injection e108)
                    replace hx108_0 := (HB.out.cell (World.block_lt_of_cell? w _ hx108_0)).trans hx108_0
                    replace hx108_1 := (HB.out.cell (World.block_lt_of_cell? w _ hx108_1)).trans hx108_1
                    replace hx108_2 := (HB.out.cell (World.block_lt_of_cell? w _ hx108_2)).trans hx108_2
                    replace p108 := eq_true p108
                    replace q108 := eq_true q108
                    go_wp2
                    repeat (go_quiet (fail); try go_wp2)
                    go_roundg k1
                    case measure => have := HK1.out; omega
                    case rel => exact ⟨(x9_1 ++ ((rd_T26 l0 x11_1).f2)), (x10_1), (wrap64 (x11_1 + 1)), (by first | rfl | (simp; done) | (simp [*]; done)), (by first | rfl | (simp; done) | (simp [*]; done)), (by first | rfl | (simp; done) | (simp [*]; done)), H', ⟨by have := HK1.out; omega⟩, ⟨by (with_reducible repeat (first | apply Kd.R_alloc | apply Kd.R_drewN | apply Kd.R_drew)); exact HO_7.out⟩, ⟨by repeat (first | (with_reducible first | exact HB.out | apply below_alloc | apply pw_below_drewN | apply below_drew1) | exact HB.out)⟩⟩
                  · rw [if_neg c16] at H
                    exact absurd H (by simp)
                · rw [if_neg c15] at H
                  have c15b0 : (((rd_T26 l0 x11_1).f0) == 2) = false := beq_eq_false_iff_ne.mpr c15
                  have c15b1 : (((rd_T26 l0 x11_1).f0) != 2) = true := bne_iff_ne.mpr c15
                  by_cases c17 : ((rd_T26 l0 x11_1).f0) = 1
                  · rw [if_pos c17] at H
                    have c17b0 : (((rd_T26 l0 x11_1).f0) == 1) = true := beq_iff_eq.mpr c17
                    have c17b1 : (((rd_T26 l0 x11_1).f0) != 1) = false := bne_eq_false_iff_eq.mpr c17
                    clear c17
                    by_cases c18 : 0 ≤ x10_1
                    · rw [if_pos c18] at H
                      have c18b0 : decide (0 ≤ x10_1) = true := decide_eq_true c18
                      clear c18
                      by_cases c19 : x10_1 < (t102.length : Int)
                      · rw [if_pos c19] at H
                        have c19b0 : decide (x10_1 < (t102.length : Int)) = true := decide_eq_true c19
                        clear c19
                        obtain ⟨ji20, hji20⟩ : ∃ j_ : Int, (wrap64 (x10_1 + ((rd_T26 l0 x11_1).f1))) = j_ := ⟨_, rfl⟩
                        replace H : (if 0 ≤ (ji20) then (if (ji20) < (t102.length : Int) then (if 0 ≤ (rd t102 x10_1) then (if (rd t102 x10_1) ≤ (rd t102 (ji20)) then (if (rd t102 (ji20)) ≤ (a1.size : Int) then (if x9_1.size + (a1.extract ((rd t102 x10_1) : Int).toNat ((rd t102 (ji20)) : Int).toNat).size ≤ 9223372036854775807 then (epitomeref07_To.l0 k1 l0 a1 t102 (x9_1 ++ (a1.extract ((rd t102 x10_1) : Int).toNat ((rd t102 (ji20)) : Int).toNat)) ji20 (wrap64 (x11_1 + 1))) else (none)) else (none)) else (none)) else (none)) else (none)) else (none)) = some (r1, r2) := by first | (rw [hji20] at H; exact H) | (simp only [hji20] at H ⊢; exact H)
                        have hji20w : (IntKind.i64.wrap (x10_1 + ((rd_T26 l0 x11_1).f1))) = ji20 := (i64_w _).trans hji20
                        by_cases c21 : 0 ≤ (ji20)
                        · rw [if_pos c21] at H
                          have c21b0 : decide (0 ≤ (ji20)) = true := decide_eq_true c21
                          clear c21
                          by_cases c22 : (ji20) < (t102.length : Int)
                          · rw [if_pos c22] at H
                            have c22b0 : decide ((ji20) < (t102.length : Int)) = true := decide_eq_true c22
                            clear c22
                            by_cases c23 : 0 ≤ (rd t102 x10_1)
                            · rw [if_pos c23] at H
                              have c23b0 := eq_true c23
                              have c23b1 : decide (0 ≤ (rd t102 x10_1)) = true := decide_eq_true c23
                              clear c23
                              by_cases c24 : (rd t102 x10_1) ≤ (rd t102 (ji20))
                              · rw [if_pos c24] at H
                                have c24b0 := eq_true c24
                                have c24b1 : decide ((rd t102 x10_1) ≤ (rd t102 (ji20))) = true := decide_eq_true c24
                                clear c24
                                by_cases c25 : (rd t102 (ji20)) ≤ (a1.size : Int)
                                · rw [if_pos c25] at H
                                  have c25b0 := eq_true c25
                                  have c25b1 : decide ((rd t102 (ji20)) ≤ (a1.size : Int)) = true := decide_eq_true c25
                                  clear c25
                                  by_cases c26 : x9_1.size + (a1.extract ((rd t102 x10_1) : Int).toNat ((rd t102 (ji20)) : Int).toNat).size ≤ 9223372036854775807
                                  · rw [if_pos c26] at H
                                    have c26b0 := eq_true c26
                                    have c26b1 : decide (x9_1.size + (a1.extract ((rd t102 x10_1) : Int).toNat ((rd t102 (ji20)) : Int).toNat).size ≤ 9223372036854775807) = true := decide_eq_true c26
                                    try have c26b2 : (9223372036854775807 < x9_1.size + (a1.extract ((rd t102 x10_1) : Int).toNat ((rd t102 (ji20)) : Int).toNat).size) = False := eq_false (Nat.not_lt.2 c26)
                                    have H' := Aside0.mk H
                                    clear H
                                    have p107 : 0 ≤ (x11_1 : Int) := of_decide_eq_true (by first | (with_reducible assumption) | assumption)
                                    have q107 : x11_1 < (l0.length : Int) := of_decide_eq_true (by first | (with_reducible assumption) | assumption)
                                    obtain ⟨ad107, e107, hx107_0, hx107_1, hx107_2⟩ := at_T26 HR0.out x11_1 p107 q107
                                    cases e107
                                    replace hx107_0 := (HB.out.cell (World.block_lt_of_cell? w _ hx107_0)).trans hx107_0
                                    replace hx107_1 := (HB.out.cell (World.block_lt_of_cell? w _ hx107_1)).trans hx107_1
                                    replace hx107_2 := (HB.out.cell (World.block_lt_of_cell? w _ hx107_2)).trans hx107_2
                                    replace p107 := eq_true p107
                                    replace q107 := eq_true q107
                                    have p109 : 0 ≤ (x10_1 : Int) := of_decide_eq_true (by first | (with_reducible assumption) | assumption)
                                    have q109 : x10_1 < (t102.length : Int) := of_decide_eq_true (by first | (with_reducible assumption) | assumption)
                                    obtain ⟨ad109, e109, hx109_0⟩ := Kd.at_int (Kd.R_reads' HO_7.out).2.2 x10_1 p109 q109
                                    cases e109
                                    replace p109 := eq_true p109
                                    replace q109 := eq_true q109
                                    have p110 : 0 ≤ (x11_1 : Int) := of_decide_eq_true (by first | (with_reducible assumption) | assumption)
                                    have q110 : x11_1 < (l0.length : Int) := of_decide_eq_true (by first | (with_reducible assumption) | assumption)
                                    obtain ⟨ad110, e110, hx110_0, hx110_1, hx110_2⟩ := at_T26 HR0.out x11_1 p110 q110
                                    obtain rfl : ad107 = ad110 := (by injection e110)
                                    replace hx110_0 := (HB.out.cell (World.block_lt_of_cell? w _ hx110_0)).trans hx110_0
                                    replace hx110_1 := (HB.out.cell (World.block_lt_of_cell? w _ hx110_1)).trans hx110_1
                                    replace hx110_2 := (HB.out.cell (World.block_lt_of_cell? w _ hx110_2)).trans hx110_2
                                    replace p110 := eq_true p110
                                    replace q110 := eq_true q110
                                    have p111 : 0 ≤ ((ji20) : Int) := of_decide_eq_true (by first | (with_reducible assumption) | assumption)
                                    have q111 : (ji20) < (t102.length : Int) := of_decide_eq_true (by first | (with_reducible assumption) | assumption)
                                    obtain ⟨ad111, e111, hx111_0⟩ := Kd.at_int (Kd.R_reads' HO_7.out).2.2 (ji20) p111 q111
                                    obtain rfl : ad109 = ad111 := (by injection e111)
                                    replace p111 := eq_true p111
                                    replace q111 := eq_true q111
                                    have p112 : 0 ≤ (x11_1 : Int) := of_decide_eq_true (by first | (with_reducible assumption) | assumption)
                                    have q112 : x11_1 < (l0.length : Int) := of_decide_eq_true (by first | (with_reducible assumption) | assumption)
                                    obtain ⟨ad112, e112, hx112_0, hx112_1, hx112_2⟩ := at_T26 HR0.out x11_1 p112 q112
                                    obtain rfl : ad107 = ad112 := (by injection e112)
                                    replace hx112_0 := (HB.out.cell (World.block_lt_of_cell? w _ hx112_0)).trans hx112_0
                                    replace hx112_1 := (HB.out.cell (World.block_lt_of_cell? w _ hx112_1)).trans hx112_1
                                    replace hx112_2 := (HB.out.cell (World.block_lt_of_cell? w _ hx112_2)).trans hx112_2
                                    replace p112 := eq_true p112
                                    replace q112 := eq_true q112
                                    go_wp2
                                    repeat (go_quiet (fail); try go_wp2)
                                    go_roundg k1
                                    case measure => have := HK1.out; omega
                                    case rel => exact ⟨(x9_1 ++ (a1.extract ((rd t102 x10_1) : Int).toNat ((rd t102 (ji20)) : Int).toNat)), (ji20), (wrap64 (x11_1 + 1)), (by first | rfl | (simp; done) | (simp only [← hji20] <;> (first | rfl | simp)) | (simp [*]; done)), (by first | rfl | (simp; done) | (simp only [← hji20] <;> (first | rfl | simp)) | (simp [*]; done)), (by first | rfl | (simp; done) | (simp [*]; done)), H', ⟨by have := HK1.out; omega⟩, ⟨by (with_reducible repeat (first | apply Kd.R_alloc | apply Kd.R_drewN | apply Kd.R_drew)); exact HO_7.out⟩, ⟨by repeat (first | (with_reducible first | exact HB.out | apply below_alloc | apply pw_below_drewN | apply below_drew1) | exact HB.out)⟩⟩
                                  · rw [if_neg c26] at H
                                    exact absurd H (by simp)
                                · rw [if_neg c25] at H
                                  exact absurd H (by simp)
                              · rw [if_neg c24] at H
                                exact absurd H (by simp)
                            · rw [if_neg c23] at H
                              exact absurd H (by simp)
                          · rw [if_neg c22] at H
                            exact absurd H (by simp)
                        · rw [if_neg c21] at H
                          exact absurd H (by simp)
                      · rw [if_neg c19] at H
                        exact absurd H (by simp)
                    · rw [if_neg c18] at H
                      exact absurd H (by simp)
                  · rw [if_neg c17] at H
                    have c17b0 : (((rd_T26 l0 x11_1).f0) == 1) = false := beq_eq_false_iff_ne.mpr c17
                    have c17b1 : (((rd_T26 l0 x11_1).f0) != 1) = true := bne_iff_ne.mpr c17
                    have H' := Aside0.mk H
                    clear H
                    have p107 : 0 ≤ (x11_1 : Int) := of_decide_eq_true (by first | (with_reducible assumption) | assumption)
                    have q107 : x11_1 < (l0.length : Int) := of_decide_eq_true (by first | (with_reducible assumption) | assumption)
                    obtain ⟨ad107, e107, hx107_0, hx107_1, hx107_2⟩ := at_T26 HR0.out x11_1 p107 q107
                    cases e107
                    replace hx107_0 := (HB.out.cell (World.block_lt_of_cell? w _ hx107_0)).trans hx107_0
                    replace hx107_1 := (HB.out.cell (World.block_lt_of_cell? w _ hx107_1)).trans hx107_1
                    replace hx107_2 := (HB.out.cell (World.block_lt_of_cell? w _ hx107_2)).trans hx107_2
                    replace p107 := eq_true p107
                    replace q107 := eq_true q107
                    have p113 : 0 ≤ (x11_1 : Int) := of_decide_eq_true (by first | (with_reducible assumption) | assumption)
                    have q113 : x11_1 < (l0.length : Int) := of_decide_eq_true (by first | (with_reducible assumption) | assumption)
                    obtain ⟨ad113, e113, hx113_0, hx113_1, hx113_2⟩ := at_T26 HR0.out x11_1 p113 q113
                    obtain rfl : ad107 = ad113 := (by injection e113)
                    replace hx113_0 := (HB.out.cell (World.block_lt_of_cell? w _ hx113_0)).trans hx113_0
                    replace hx113_1 := (HB.out.cell (World.block_lt_of_cell? w _ hx113_1)).trans hx113_1
                    replace hx113_2 := (HB.out.cell (World.block_lt_of_cell? w _ hx113_2)).trans hx113_2
                    replace p113 := eq_true p113
                    replace q113 := eq_true q113
                    go_wp2
                    repeat (go_quiet (fail); try go_wp2)
                    go_roundg k1
                    case measure => have := HK1.out; omega
                    case rel => exact ⟨(x9_1), (wrap64 (x10_1 + ((rd_T26 l0 x11_1).f1))), (wrap64 (x11_1 + 1)), (by first | rfl | (simp; done) | (simp [*]; done)), (by first | rfl | (simp; done) | (simp [*]; done)), (by first | rfl | (simp; done) | (simp [*]; done)), H', ⟨by have := HK1.out; omega⟩, ⟨by (with_reducible repeat (first | apply Kd.R_alloc | apply Kd.R_drewN | apply Kd.R_drew)); exact HO_7.out⟩, ⟨by repeat (first | (with_reducible first | exact HB.out | apply below_alloc | apply pw_below_drewN | apply below_drew1) | exact HB.out)⟩⟩
              · rw [if_neg c14] at H
                exact absurd H (by simp)
            · rw [if_neg c13] at H
              have c13b0 : decide (x11_1 < (l0.length : Int)) = false := decide_eq_false c13
              clear c13
              simp only [Option.some.injEq, Prod.mk.injEq] at H
              obtain ⟨rfl, rfl⟩ := H
              go_wp2
              repeat (go_quiet (fail); try go_wp2)
              go_ret2
              exact ⟨by first | rfl | (simp [errW_none, errW_some] <;> rfl) | (simp [*, errW_none, errW_some] <;> rfl), by repeat (first | (with_reducible first | exact HB.out | apply below_alloc | apply pw_below_drewN | apply below_drew1) | exact HB.out)⟩
      · rw [if_neg c8] at H
        have c8b0 : ((wrap64 ((t102.length : Int) - 1)) == t106) = false := beq_eq_false_iff_ne.mpr c8
        have c8b1 : ((wrap64 ((t102.length : Int) - 1)) != t106) = true := bne_iff_ne.mpr c8
        simp only [Option.some.injEq, Prod.mk.injEq] at H
        obtain ⟨rfl, rfl⟩ := H
        go_enter Tryd.func79, Tryd.ntmps79
        go_wp2_with (first | (go_at_call 73; (with_reducible refine (epitomeref04_May.calls k _ _ l0 t101 _ ?side1 ?side2 A3.out).mono ?_); (case side1 => repeat (first | exact HR0.out | (with_reducible refine Kd.C_alloc ?_ _) | (with_reducible refine Kd.C_drewN ?_ _) | (with_reducible refine Kd.C_drew ?_))); (case side2 => exact HC0.out); rintro e w27 ⟨rfl, hb⟩; have n0_ := Aside0.mk (below_step (by repeat (first | (with_reducible first | exact HB.out | apply below_alloc | apply pw_below_drewN | apply below_drew1) | exact HB.out)) hb); clear HB; have HB := n0_; clear n0_; (try clear hb); (try clear hb2); (try clear hk); (try clear hi)) | (go_at_call 77; (with_reducible refine (epitomeref01_Starts.calls k a1 t102 true _ A5.out).mono ?_); rintro e w28 ⟨v104, rfl, ho0, hb⟩; have n0_ := Aside0.mk (Kd.R_lower ho0 (below_size (by repeat (first | (with_reducible first | exact HB.out | apply below_alloc | apply pw_below_drewN | apply below_drew1) | exact HB.out)))); have n1_ := Aside0.mk (below_step (by repeat (first | (with_reducible first | exact HB.out | apply below_alloc | apply pw_below_drewN | apply below_drew1) | exact HB.out)) hb); clear HB; have HO105 := n0_; have HB := n1_; clear n0_ n1_; (try clear hb); (try clear hb2); (try clear hk); (try clear hi); (try clear ho0); obtain ⟨Ao29, co29, eo29⟩ := Kd.R_slice HO105.out; subst eo29) | (go_at_call 74; (with_reducible refine (epitomeref04_In.calls k _ _ l0 t106 _ ?side1 ?side2 A7.out).mono ?_); (case side1 => repeat (first | exact (Kd.C_below HR0.out HB.out) | (with_reducible refine Kd.C_alloc ?_ _) | (with_reducible refine Kd.C_drewN ?_ _) | (with_reducible refine Kd.C_drew ?_))); (case side2 => exact HC0.out); rintro e w30 ⟨rfl, hb⟩; have n0_ := Aside0.mk (Kd.R_below (by (with_reducible repeat (first | apply Kd.R_alloc | apply Kd.R_drewN | apply Kd.R_drew)); exact HO105.out) hb); have n1_ := Aside0.mk (below_step (by repeat (first | (with_reducible first | exact HB.out | apply below_alloc | apply pw_below_drewN | apply below_drew1) | exact HB.out)) hb); clear HO105; clear HB; have HO105 := n0_; have HB := n1_; clear n0_ n1_; (try clear hb); (try clear hb2); (try clear hk); (try clear hi)))
        repeat (go_quiet (first | (go_at_call 73; (with_reducible refine (epitomeref04_May.calls k _ _ l0 t101 _ ?side1 ?side2 A3.out).mono ?_); (case side1 => repeat (first | exact HR0.out | (with_reducible refine Kd.C_alloc ?_ _) | (with_reducible refine Kd.C_drewN ?_ _) | (with_reducible refine Kd.C_drew ?_))); (case side2 => exact HC0.out); rintro e w27 ⟨rfl, hb⟩; have n0_ := Aside0.mk (below_step (by repeat (first | (with_reducible first | exact HB.out | apply below_alloc | apply pw_below_drewN | apply below_drew1) | exact HB.out)) hb); clear HB; have HB := n0_; clear n0_; (try clear hb); (try clear hb2); (try clear hk); (try clear hi)) | (go_at_call 77; (with_reducible refine (epitomeref01_Starts.calls k a1 t102 true _ A5.out).mono ?_); rintro e w28 ⟨v104, rfl, ho0, hb⟩; have n0_ := Aside0.mk (Kd.R_lower ho0 (below_size (by repeat (first | (with_reducible first | exact HB.out | apply below_alloc | apply pw_below_drewN | apply below_drew1) | exact HB.out)))); have n1_ := Aside0.mk (below_step (by repeat (first | (with_reducible first | exact HB.out | apply below_alloc | apply pw_below_drewN | apply below_drew1) | exact HB.out)) hb); clear HB; have HO105 := n0_; have HB := n1_; clear n0_ n1_; (try clear hb); (try clear hb2); (try clear hk); (try clear hi); (try clear ho0); obtain ⟨Ao29, co29, eo29⟩ := Kd.R_slice HO105.out; subst eo29) | (go_at_call 74; (with_reducible refine (epitomeref04_In.calls k _ _ l0 t106 _ ?side1 ?side2 A7.out).mono ?_); (case side1 => repeat (first | exact (Kd.C_below HR0.out HB.out) | (with_reducible refine Kd.C_alloc ?_ _) | (with_reducible refine Kd.C_drewN ?_ _) | (with_reducible refine Kd.C_drew ?_))); (case side2 => exact HC0.out); rintro e w30 ⟨rfl, hb⟩; have n0_ := Aside0.mk (Kd.R_below (by (with_reducible repeat (first | apply Kd.R_alloc | apply Kd.R_drewN | apply Kd.R_drew)); exact HO105.out) hb); have n1_ := Aside0.mk (below_step (by repeat (first | (with_reducible first | exact HB.out | apply below_alloc | apply pw_below_drewN | apply below_drew1) | exact HB.out)) hb); clear HO105; clear HB; have HO105 := n0_; have HB := n1_; clear n0_ n1_; (try clear hb); (try clear hb2); (try clear hk); (try clear hi))); try go_wp2_with (first | (go_at_call 73; (with_reducible refine (epitomeref04_May.calls k _ _ l0 t101 _ ?side1 ?side2 A3.out).mono ?_); (case side1 => repeat (first | exact HR0.out | (with_reducible refine Kd.C_alloc ?_ _) | (with_reducible refine Kd.C_drewN ?_ _) | (with_reducible refine Kd.C_drew ?_))); (case side2 => exact HC0.out); rintro e w27 ⟨rfl, hb⟩; have n0_ := Aside0.mk (below_step (by repeat (first | (with_reducible first | exact HB.out | apply below_alloc | apply pw_below_drewN | apply below_drew1) | exact HB.out)) hb); clear HB; have HB := n0_; clear n0_; (try clear hb); (try clear hb2); (try clear hk); (try clear hi)) | (go_at_call 77; (with_reducible refine (epitomeref01_Starts.calls k a1 t102 true _ A5.out).mono ?_); rintro e w28 ⟨v104, rfl, ho0, hb⟩; have n0_ := Aside0.mk (Kd.R_lower ho0 (below_size (by repeat (first | (with_reducible first | exact HB.out | apply below_alloc | apply pw_below_drewN | apply below_drew1) | exact HB.out)))); have n1_ := Aside0.mk (below_step (by repeat (first | (with_reducible first | exact HB.out | apply below_alloc | apply pw_below_drewN | apply below_drew1) | exact HB.out)) hb); clear HB; have HO105 := n0_; have HB := n1_; clear n0_ n1_; (try clear hb); (try clear hb2); (try clear hk); (try clear hi); (try clear ho0); obtain ⟨Ao29, co29, eo29⟩ := Kd.R_slice HO105.out; subst eo29) | (go_at_call 74; (with_reducible refine (epitomeref04_In.calls k _ _ l0 t106 _ ?side1 ?side2 A7.out).mono ?_); (case side1 => repeat (first | exact (Kd.C_below HR0.out HB.out) | (with_reducible refine Kd.C_alloc ?_ _) | (with_reducible refine Kd.C_drewN ?_ _) | (with_reducible refine Kd.C_drew ?_))); (case side2 => exact HC0.out); rintro e w30 ⟨rfl, hb⟩; have n0_ := Aside0.mk (Kd.R_below (by (with_reducible repeat (first | apply Kd.R_alloc | apply Kd.R_drewN | apply Kd.R_drew)); exact HO105.out) hb); have n1_ := Aside0.mk (below_step (by repeat (first | (with_reducible first | exact HB.out | apply below_alloc | apply pw_below_drewN | apply below_drew1) | exact HB.out)) hb); clear HO105; clear HB; have HO105 := n0_; have HB := n1_; clear n0_ n1_; (try clear hb); (try clear hb2); (try clear hk); (try clear hi))))
        go_ret2
        exact ⟨by first | rfl | (simp [errW_none, errW_some] <;> rfl) | (simp [*, errW_none, errW_some] <;> rfl), by repeat (first | (with_reducible first | exact HB.out | apply below_alloc | apply pw_below_drewN | apply below_drew1) | exact HB.out)⟩
    · replace c6 := Bool.eq_false_iff.mpr c6
      subst c6
      have H1 : (some ((⟨#[]⟩ : ByteArray), 3)) = some (r1, r2) := by rw [if_neg (show ¬ (false = true) by decide)] at H; exact H
      clear H
      have H := H1
      clear H1
      simp only [Option.some.injEq, Prod.mk.injEq] at H
      obtain ⟨rfl, rfl⟩ := H
      go_enter Tryd.func79, Tryd.ntmps79
      go_wp2_with (first | (go_at_call 73; (with_reducible refine (epitomeref04_May.calls k _ _ l0 t101 _ ?side1 ?side2 A3.out).mono ?_); (case side1 => repeat (first | exact HR0.out | (with_reducible refine Kd.C_alloc ?_ _) | (with_reducible refine Kd.C_drewN ?_ _) | (with_reducible refine Kd.C_drew ?_))); (case side2 => exact HC0.out); rintro e w31 ⟨rfl, hb⟩; have n0_ := Aside0.mk (below_step (by repeat (first | (with_reducible first | exact HB.out | apply below_alloc | apply pw_below_drewN | apply below_drew1) | exact HB.out)) hb); clear HB; have HB := n0_; clear n0_; (try clear hb); (try clear hb2); (try clear hk); (try clear hi)) | (go_at_call 77; (with_reducible refine (epitomeref01_Starts.calls k a1 t102 false _ A5.out).mono ?_); rintro e w32 ⟨v104, rfl, ho0, hb⟩; have n0_ := Aside0.mk (Kd.R_lower ho0 (below_size (by repeat (first | (with_reducible first | exact HB.out | apply below_alloc | apply pw_below_drewN | apply below_drew1) | exact HB.out)))); have n1_ := Aside0.mk (below_step (by repeat (first | (with_reducible first | exact HB.out | apply below_alloc | apply pw_below_drewN | apply below_drew1) | exact HB.out)) hb); clear HB; have HO105 := n0_; have HB := n1_; clear n0_ n1_; (try clear hb); (try clear hb2); (try clear hk); (try clear hi); (try clear ho0)))
      repeat (go_quiet (first | (go_at_call 73; (with_reducible refine (epitomeref04_May.calls k _ _ l0 t101 _ ?side1 ?side2 A3.out).mono ?_); (case side1 => repeat (first | exact HR0.out | (with_reducible refine Kd.C_alloc ?_ _) | (with_reducible refine Kd.C_drewN ?_ _) | (with_reducible refine Kd.C_drew ?_))); (case side2 => exact HC0.out); rintro e w31 ⟨rfl, hb⟩; have n0_ := Aside0.mk (below_step (by repeat (first | (with_reducible first | exact HB.out | apply below_alloc | apply pw_below_drewN | apply below_drew1) | exact HB.out)) hb); clear HB; have HB := n0_; clear n0_; (try clear hb); (try clear hb2); (try clear hk); (try clear hi)) | (go_at_call 77; (with_reducible refine (epitomeref01_Starts.calls k a1 t102 false _ A5.out).mono ?_); rintro e w32 ⟨v104, rfl, ho0, hb⟩; have n0_ := Aside0.mk (Kd.R_lower ho0 (below_size (by repeat (first | (with_reducible first | exact HB.out | apply below_alloc | apply pw_below_drewN | apply below_drew1) | exact HB.out)))); have n1_ := Aside0.mk (below_step (by repeat (first | (with_reducible first | exact HB.out | apply below_alloc | apply pw_below_drewN | apply below_drew1) | exact HB.out)) hb); clear HB; have HO105 := n0_; have HB := n1_; clear n0_ n1_; (try clear hb); (try clear hb2); (try clear hk); (try clear hi); (try clear ho0))); try go_wp2_with (first | (go_at_call 73; (with_reducible refine (epitomeref04_May.calls k _ _ l0 t101 _ ?side1 ?side2 A3.out).mono ?_); (case side1 => repeat (first | exact HR0.out | (with_reducible refine Kd.C_alloc ?_ _) | (with_reducible refine Kd.C_drewN ?_ _) | (with_reducible refine Kd.C_drew ?_))); (case side2 => exact HC0.out); rintro e w31 ⟨rfl, hb⟩; have n0_ := Aside0.mk (below_step (by repeat (first | (with_reducible first | exact HB.out | apply below_alloc | apply pw_below_drewN | apply below_drew1) | exact HB.out)) hb); clear HB; have HB := n0_; clear n0_; (try clear hb); (try clear hb2); (try clear hk); (try clear hi)) | (go_at_call 77; (with_reducible refine (epitomeref01_Starts.calls k a1 t102 false _ A5.out).mono ?_); rintro e w32 ⟨v104, rfl, ho0, hb⟩; have n0_ := Aside0.mk (Kd.R_lower ho0 (below_size (by repeat (first | (with_reducible first | exact HB.out | apply below_alloc | apply pw_below_drewN | apply below_drew1) | exact HB.out)))); have n1_ := Aside0.mk (below_step (by repeat (first | (with_reducible first | exact HB.out | apply below_alloc | apply pw_below_drewN | apply below_drew1) | exact HB.out)) hb); clear HB; have HO105 := n0_; have HB := n1_; clear n0_ n1_; (try clear hb); (try clear hb2); (try clear hk); (try clear hi); (try clear ho0))))
      go_ret2
      exact ⟨by first | rfl | (simp [errW_none, errW_some] <;> rfl) | (simp [*, errW_none, errW_some] <;> rfl), by repeat (first | (with_reducible first | exact HB.out | apply below_alloc | apply pw_below_drewN | apply below_drew1) | exact HB.out)⟩
  · rw [if_neg c4] at H
    have c4b0 : (t101 == 0) = false := beq_eq_false_iff_ne.mpr c4
    have c4b1 : (t101 != 0) = true := bne_iff_ne.mpr c4
    simp only [Option.some.injEq, Prod.mk.injEq] at H
    obtain ⟨rfl, rfl⟩ := H
    go_enter Tryd.func79, Tryd.ntmps79
    go_wp2_with (first | (go_at_call 73; (with_reducible refine (epitomeref04_May.calls k _ _ l0 t101 _ ?side1 ?side2 A3.out).mono ?_); (case side1 => repeat (first | exact HR0.out | (with_reducible refine Kd.C_alloc ?_ _) | (with_reducible refine Kd.C_drewN ?_ _) | (with_reducible refine Kd.C_drew ?_))); (case side2 => exact HC0.out); rintro e w33 ⟨rfl, hb⟩; have n0_ := Aside0.mk (below_step (by repeat (first | (with_reducible first | exact HB.out | apply below_alloc | apply pw_below_drewN | apply below_drew1) | exact HB.out)) hb); clear HB; have HB := n0_; clear n0_; (try clear hb); (try clear hb2); (try clear hk); (try clear hi)))
    repeat (go_quiet (first | (go_at_call 73; (with_reducible refine (epitomeref04_May.calls k _ _ l0 t101 _ ?side1 ?side2 A3.out).mono ?_); (case side1 => repeat (first | exact HR0.out | (with_reducible refine Kd.C_alloc ?_ _) | (with_reducible refine Kd.C_drewN ?_ _) | (with_reducible refine Kd.C_drew ?_))); (case side2 => exact HC0.out); rintro e w33 ⟨rfl, hb⟩; have n0_ := Aside0.mk (below_step (by repeat (first | (with_reducible first | exact HB.out | apply below_alloc | apply pw_below_drewN | apply below_drew1) | exact HB.out)) hb); clear HB; have HB := n0_; clear n0_; (try clear hb); (try clear hb2); (try clear hk); (try clear hi))); try go_wp2_with (first | (go_at_call 73; (with_reducible refine (epitomeref04_May.calls k _ _ l0 t101 _ ?side1 ?side2 A3.out).mono ?_); (case side1 => repeat (first | exact HR0.out | (with_reducible refine Kd.C_alloc ?_ _) | (with_reducible refine Kd.C_drewN ?_ _) | (with_reducible refine Kd.C_drew ?_))); (case side2 => exact HC0.out); rintro e w33 ⟨rfl, hb⟩; have n0_ := Aside0.mk (below_step (by repeat (first | (with_reducible first | exact HB.out | apply below_alloc | apply pw_below_drewN | apply below_drew1) | exact HB.out)) hb); clear HB; have HB := n0_; clear n0_; (try clear hb); (try clear hb2); (try clear hk); (try clear hi))))
    go_ret2
    exact ⟨by first | rfl | (simp [errW_none, errW_some] <;> rfl) | (simp [*, errW_none, errW_some] <;> rfl), by repeat (first | (with_reducible first | exact HB.out | apply below_alloc | apply pw_below_drewN | apply below_drew1) | exact HB.out)⟩
end Go.Proofs.YtkefbljogjcodaaDoor.F
end
section
namespace Go.Proofs.YtkefbljogjcodaaDoor.F
open Go.RowKit Go.Proofs.YtkefbljogjcodaaDoorW.PrintWords Go.Proofs.YtkefbljogjcodaaDoorW.PrintLast Go.Proofs.YtkefbljogjcodaaDoorW.PrintMore
attribute [local go_sem] max2_int min2_int max_two min_two max_three min_three max_four min_four cell_setCell_isSome
set_option linter.unusedVariables false
set_option linter.unusedSimpArgs false
mutual
def epitomeref07_All.j0 : Nat → ByteArray → List (List (S26)) → Bool → Option (ByteArray × Int)
  | 0, _, _, _ => none
  | k + 1, x0, x1, x16 => if x16 = true then (some ((⟨#[]⟩ : ByteArray), 3)) else (epitomeref07_All.l0 k x0 x1 0)
def epitomeref07_All.l0 : Nat → ByteArray → List (List (S26)) → Int → Option (ByteArray × Int)
  | 0, _, _, _ => none
  | k + 1, x0, x1, x6 => if x6 < (x1.length : Int) then (if 0 ≤ x6 then ((epitomeref07_To.f k (rd_L4 x1 x6) x0).bind fun bt103 => (if bt103.2 = 0 then (epitomeref07_All.l0 k bt103.1 x1 (wrap64 (x6 + 1))) else (some ((⟨#[]⟩ : ByteArray), bt103.2)))) else (none)) else (some (x0, 0))
end
def epitomeref07_All.f (k : Nat) (a0 : ByteArray) (l1 : List (List (S26))) : Option (ByteArray × Int) := (epitomeref01_Valid.f k a0).bind fun t101 => (if t101 = true then (epitomeref07_All.j0 k a0 l1 false) else (epitomeref07_All.j0 k a0 l1 ((l1.length : Int) == 0)))
set_option maxHeartbeats 8000000 in
set_option maxRecDepth 100000 in
theorem epitomeref07_All.calls (k : Nat) (a0 : ByteArray) (A1 : Option Addr) (c1 : Nat) (l1 : List (List (S26))) (r1 : ByteArray) (r2 : Int) (w : World) (hr1 : Kd.C (Kd.slice 26 k26) w A1 l1.length l1) (hc1 : l1.length ≤ c1) (h : epitomeref07_All.f k a0 l1 = some (r1, r2)) :
    Calls Tryd.prog 42 #[.string a0, .slice A1 l1.length c1] w fun e w' => e = .returned (.tuple #[.string r1, .int .i64 r2]) ∧ Below w.heap.size w w' := by
  have HR1 := Aside0.mk hr1
  have HC1 := Aside0.mk hc1
  clear hr1 hc1
  have HB := Aside0.mk (Below.refl w.heap.size w)
  have H : ((epitomeref01_Valid.f k a0).bind fun t101 => (if t101 = true then (epitomeref07_All.j0 k a0 l1 false) else (epitomeref07_All.j0 k a0 l1 ((l1.length : Int) == 0)))) = some (r1, r2) := h
  clear h
  have HC3 := Aside0.mk H
  clear H
  go_enter Tryd.func42, Tryd.ntmps42
  go_upto_region 1 with (fail)
  go_cut [16] (fun v16 wc => ∃ (kq : Nat) (x16_2 : Bool), v16 = .bool x16_2 ∧ Aside0 (epitomeref07_All.j0 kq a0 l1 x16_2 = some (r1, r2)) ∧ Aside0 (kq ≤ k) ∧ Aside0 (Below w.heap.size w wc))
  case first =>
    have H := HC3.out
    clear HC3
    replace H := Option.bind_eq_some_iff.mp H
    obtain ⟨t101, A40, H⟩ := H
    replace H : (if t101 = true then (epitomeref07_All.j0 k a0 l1 false) else (epitomeref07_All.j0 k a0 l1 ((l1.length : Int) == 0))) = some (r1, r2) := H
    have A4 := Aside0.mk A40
    clear A40
    by_cases c5 : t101 = true
    · subst c5
      have H1 : (epitomeref07_All.j0 k a0 l1 false) = some (r1, r2) := by rw [if_pos rfl] at H; exact H
      clear H
      have H := H1
      clear H1
      have H' := Aside0.mk H
      clear H
      go_wp2_with (first | ((with_reducible refine gate_callee (f := 78) rfl ?_); refine goesL_ (some 10) rfl rfl Tryd.func78 (by kernel_rfl) rfl #[.string a0] rfl (by (try simp only [List.map_toArray, List.map_cons, List.map_nil]); first | done | rfl | (simp only [List.length_drop, List.length_take]; rfl)) ?_; (with_reducible refine (epitomeref01_Valid.calls k a0 true _ A4.out).mono ?_); rintro e w6 ⟨rfl, hb⟩; refine ⟨_, rfl, ?_⟩; have n0_ := Aside0.mk (below_step (by repeat (first | (with_reducible first | exact HB.out | apply below_alloc | apply pw_below_drewN | apply below_drew1) | exact HB.out)) hb); clear HB; have HB := n0_; clear n0_; (try clear hb); (try clear hb2); (try clear hk); (try clear hi)))
      go_meet
      case rel => exact ⟨_, (false), (by first | rfl | (simp; done) | (simp [*]; done)), H', ⟨by first | omega | exact Nat.le_refl _⟩, ⟨by repeat (first | (with_reducible first | exact HB.out | apply below_alloc | apply pw_below_drewN | apply below_drew1) | exact HB.out)⟩⟩
    · replace c5 := Bool.eq_false_iff.mpr c5
      subst c5
      have H1 : (epitomeref07_All.j0 k a0 l1 ((l1.length : Int) == 0)) = some (r1, r2) := by rw [if_neg (show ¬ (false = true) by decide)] at H; exact H
      clear H
      have H := H1
      clear H1
      have H' := Aside0.mk H
      clear H
      go_wp2_with (first | ((with_reducible refine gate_callee (f := 78) rfl ?_); refine goesL_ (some 10) rfl rfl Tryd.func78 (by kernel_rfl) rfl #[.string a0] rfl (by (try simp only [List.map_toArray, List.map_cons, List.map_nil]); first | done | rfl | (simp only [List.length_drop, List.length_take]; rfl)) ?_; (with_reducible refine (epitomeref01_Valid.calls k a0 false _ A4.out).mono ?_); rintro e w7 ⟨rfl, hb⟩; refine ⟨_, rfl, ?_⟩; have n0_ := Aside0.mk (below_step (by repeat (first | (with_reducible first | exact HB.out | apply below_alloc | apply pw_below_drewN | apply below_drew1) | exact HB.out)) hb); clear HB; have HB := n0_; clear n0_; (try clear hb); (try clear hb2); (try clear hk); (try clear hi)))
      go_meet
      case rel => exact ⟨_, (((l1.length : Int) == 0)), (by first | rfl | (simp; done) | (simp [*]; done)), H', ⟨by first | omega | exact Nat.le_refl _⟩, ⟨by repeat (first | (with_reducible first | exact HB.out | apply below_alloc | apply pw_below_drewN | apply below_drew1) | exact HB.out)⟩⟩
  case rest =>
    clear HC3
    try clear c1
    try clear p2
    try clear c4
    try clear c5
    try clear c7
    obtain ⟨kq, x16_2, rfl, HA, HJ2, HB⟩ := hcut
    cases kq with
    | zero => exact absurd HA.out (by simp [epitomeref07_All.j0])
    | succ kj2 =>
      have H := HA.out
      clear HA
      simp only [epitomeref07_All.j0] at H
      by_cases c8 : x16_2 = true
      · subst c8
        have H1 : (some ((⟨#[]⟩ : ByteArray), 3)) = some (r1, r2) := by rw [if_pos rfl] at H; exact H
        clear H
        have H := H1
        clear H1
        simp only [Option.some.injEq, Prod.mk.injEq] at H
        obtain ⟨rfl, rfl⟩ := H
        go_wp2
        go_ret2
        exact ⟨by first | rfl | (simp [errW_none, errW_some] <;> rfl) | (simp [*, errW_none, errW_some] <;> rfl), by repeat (first | (with_reducible first | exact HB.out | apply below_alloc | apply pw_below_drewN | apply below_drew1) | exact HB.out)⟩
      · replace c8 := Bool.eq_false_iff.mpr c8
        subst c8
        have H1 : (epitomeref07_All.l0 kj2 a0 l1 0) = some (r1, r2) := by rw [if_neg (show ¬ (false = true) by decide)] at H; exact H
        clear H
        have H := H1
        clear H1
        have H' := Aside0.mk H
        clear H
        go_wp2
        go_loopg [0, 6] kj2 (fun kq v0 v6 w' => ∃ (x0_2 : ByteArray) (x6_2 : Int), v0 = .string x0_2 ∧ v6 = .int .i64 x6_2 ∧ Aside0 (epitomeref07_All.l0 kq x0_2 l1 x6_2 = some (r1, r2)) ∧ Aside0 (kq ≤ kj2) ∧ Aside0 (Below w.heap.size w w'))
        case atStart => exact ⟨(a0), (0), (by first | rfl | (simp; done) | (simp [*]; done)), (by first | rfl | (simp; done) | (simp [*]; done)), H', ⟨Nat.le_refl _⟩, ⟨by repeat (first | (with_reducible first | exact HB.out | apply below_alloc | apply pw_below_drewN | apply below_drew1) | exact HB.out)⟩⟩
        case round =>
          clear H'
          try clear c1
          try clear p2
          try clear c4
          try clear c5
          try clear c7
          try clear c8
          try clear p2
          obtain ⟨x0_2, x6_2, rfl, rfl, HA, HK2, HB⟩ := hrel
          cases gk with
          | zero => exact absurd HA.out (by simp [epitomeref07_All.l0])
          | succ k2 =>
            have H := HA.out
            clear HA
            simp only [epitomeref07_All.l0] at H
            by_cases c9 : x6_2 < (l1.length : Int)
            · rw [if_pos c9] at H
              have c9b0 : decide (x6_2 < (l1.length : Int)) = true := decide_eq_true c9
              clear c9
              by_cases c10 : 0 ≤ x6_2
              · rw [if_pos c10] at H
                have c10b0 : decide (0 ≤ x6_2) = true := decide_eq_true c10
                clear c10
                replace H := Option.bind_eq_some_iff.mp H
                obtain ⟨⟨t103, t104⟩, A110, H⟩ := H
                replace H : (if t104 = 0 then (epitomeref07_All.l0 k2 t103 l1 (wrap64 (x6_2 + 1))) else (some ((⟨#[]⟩ : ByteArray), t104))) = some (r1, r2) := H
                have A11 := Aside0.mk A110
                clear A110
                by_cases c12 : t104 = 0
                · rw [if_pos c12] at H
                  have c12b0 : (t104 == 0) = true := beq_iff_eq.mpr c12
                  have c12b1 : (t104 != 0) = false := bne_eq_false_iff_eq.mpr c12
                  clear c12
                  have H' := Aside0.mk H
                  clear H
                  have p102 : 0 ≤ (x6_2 : Int) := of_decide_eq_true (by first | (with_reducible assumption) | assumption)
                  have q102 : x6_2 < (l1.length : Int) := of_decide_eq_true (by first | (with_reducible assumption) | assumption)
                  obtain ⟨ad102, A102_0, c102_0, e102, hx102_0, hl102_0, hi102_0⟩ := at_L4 HR1.out x6_2 p102 q102
                  cases e102
                  replace hx102_0 := (HB.out.cell (World.block_lt_of_cell? w _ hx102_0)).trans hx102_0
                  have HR102_0 := Aside0.mk hi102_0
                  have HC102_0 := Aside0.mk hl102_0
                  clear hi102_0 hl102_0
                  replace p102 := eq_true p102
                  replace q102 := eq_true q102
                  go_wp2_with (first | ((with_reducible refine gate_callee (f := 79) rfl ?_); refine goesL_ (some 29) rfl rfl Tryd.func79 (by kernel_rfl) rfl #[.slice A102_0 (rd_L4 l1 x6_2).length c102_0, .string x0_2] rfl (by (try simp only [List.map_toArray, List.map_cons, List.map_nil]); first | done | rfl | (simp only [List.length_drop, List.length_take]; rfl)) ?_; (with_reducible refine (epitomeref07_To.calls k2 _ _ (rd_L4 l1 x6_2) x0_2 t103 t104 _ ?side1 ?side2 A11.out).mono ?_); (case side1 => repeat (first | exact (Kd.C_below HR102_0.out HB.out) | (with_reducible refine Kd.C_alloc ?_ _) | (with_reducible refine Kd.C_drewN ?_ _) | (with_reducible refine Kd.C_drew ?_))); (case side2 => exact HC102_0.out); rintro e w13 ⟨rfl, hb⟩; refine ⟨_, rfl, ?_⟩; have n0_ := Aside0.mk (below_step (by repeat (first | (with_reducible first | exact HB.out | apply below_alloc | apply pw_below_drewN | apply below_drew1) | exact HB.out)) hb); clear HB; have HB := n0_; clear n0_; (try clear hb); (try clear hb2); (try clear hk); (try clear hi)))
                  go_roundg k2
                  case measure => have := HJ2.out; have := HK2.out; omega
                  case rel => exact ⟨(t103), (wrap64 (x6_2 + 1)), (by first | rfl | (simp; done) | (simp [*]; done)), (by first | rfl | (simp; done) | (simp [*]; done)), H', ⟨by have := HJ2.out; have := HK2.out; omega⟩, ⟨by repeat (first | (with_reducible first | exact HB.out | apply below_alloc | apply pw_below_drewN | apply below_drew1) | exact HB.out)⟩⟩
                · rw [if_neg c12] at H
                  have c12b0 : (t104 == 0) = false := beq_eq_false_iff_ne.mpr c12
                  have c12b1 : (t104 != 0) = true := bne_iff_ne.mpr c12
                  simp only [Option.some.injEq, Prod.mk.injEq] at H
                  obtain ⟨rfl, rfl⟩ := H
                  have p102 : 0 ≤ (x6_2 : Int) := of_decide_eq_true (by first | (with_reducible assumption) | assumption)
                  have q102 : x6_2 < (l1.length : Int) := of_decide_eq_true (by first | (with_reducible assumption) | assumption)
                  obtain ⟨ad102, A102_0, c102_0, e102, hx102_0, hl102_0, hi102_0⟩ := at_L4 HR1.out x6_2 p102 q102
                  cases e102
                  replace hx102_0 := (HB.out.cell (World.block_lt_of_cell? w _ hx102_0)).trans hx102_0
                  have HR102_0 := Aside0.mk hi102_0
                  have HC102_0 := Aside0.mk hl102_0
                  clear hi102_0 hl102_0
                  replace p102 := eq_true p102
                  replace q102 := eq_true q102
                  go_wp2_with (first | ((with_reducible refine gate_callee (f := 79) rfl ?_); refine goesL_ (some 29) rfl rfl Tryd.func79 (by kernel_rfl) rfl #[.slice A102_0 (rd_L4 l1 x6_2).length c102_0, .string x0_2] rfl (by (try simp only [List.map_toArray, List.map_cons, List.map_nil]); first | done | rfl | (simp only [List.length_drop, List.length_take]; rfl)) ?_; (with_reducible refine (epitomeref07_To.calls k2 _ _ (rd_L4 l1 x6_2) x0_2 t103 t104 _ ?side1 ?side2 A11.out).mono ?_); (case side1 => repeat (first | exact (Kd.C_below HR102_0.out HB.out) | (with_reducible refine Kd.C_alloc ?_ _) | (with_reducible refine Kd.C_drewN ?_ _) | (with_reducible refine Kd.C_drew ?_))); (case side2 => exact HC102_0.out); rintro e w14 ⟨rfl, hb⟩; refine ⟨_, rfl, ?_⟩; have n0_ := Aside0.mk (below_step (by repeat (first | (with_reducible first | exact HB.out | apply below_alloc | apply pw_below_drewN | apply below_drew1) | exact HB.out)) hb); clear HB; have HB := n0_; clear n0_; (try clear hb); (try clear hb2); (try clear hk); (try clear hi)))
                  go_ret2
                  exact ⟨by first | rfl | (simp [errW_none, errW_some] <;> rfl) | (simp [*, errW_none, errW_some] <;> rfl), by repeat (first | (with_reducible first | exact HB.out | apply below_alloc | apply pw_below_drewN | apply below_drew1) | exact HB.out)⟩
              · rw [if_neg c10] at H
                exact absurd H (by simp)
            · rw [if_neg c9] at H
              have c9b0 : decide (x6_2 < (l1.length : Int)) = false := decide_eq_false c9
              clear c9
              simp only [Option.some.injEq, Prod.mk.injEq] at H
              obtain ⟨rfl, rfl⟩ := H
              go_wp2
              go_ret2
              exact ⟨by first | rfl | (simp [errW_none, errW_some] <;> rfl) | (simp [*, errW_none, errW_some] <;> rfl), by repeat (first | (with_reducible first | exact HB.out | apply below_alloc | apply pw_below_drewN | apply below_drew1) | exact HB.out)⟩
end Go.Proofs.YtkefbljogjcodaaDoor.F
end
section
namespace Go.Proofs.YtkefbljogjcodaaDoor.F
open Go.RowKit Go.Proofs.YtkefbljogjcodaaDoorW.PrintWords Go.Proofs.YtkefbljogjcodaaDoorW.PrintLast Go.Proofs.YtkefbljogjcodaaDoorW.PrintMore
attribute [local go_sem] max2_int min2_int max_two min_two max_three min_three max_four min_four cell_setCell_isSome
set_option linter.unusedVariables false
set_option linter.unusedSimpArgs false
def epitomelaw07_ApplyRow.j0 : Nat → List (List (S26)) → Int → Bool → ByteArray → List (List (S26)) → ByteArray → Int → ByteArray → Int → Bool → Option (Bool)
  | 0, _, _, _, _, _, _, _, _, _, _ => none
  | k + 1, x1, x2, x7, x8, x9, x10, x11, x12, x13, x54 => if x54 = true then (if 0 ≤ x2 then (if x2 < (x1.length : Int) then ((epitomelaw07_few.f k (rd_L4 x1 x2)).bind fun t112 => (if x2 < (x9.length : Int) then ((some (x9.set (x2 : Int).toNat t112 : List (List (S26)))).bind fun y115 => ((apply_All.f k x8 y115).bind fun bt116 => ((epitomeref07_All.f k x8 y115).bind fun bt118 => ((apply_All.f k (⟨#[255]⟩ : ByteArray) ([] : List (List (S26)))).bind fun bt120 => (if x7 = true then (if x10.toList = x12.toList then (if x11 = x13 then (if x11 = 0 then (if bt116.1.toList = bt118.1.toList then (if bt116.2 = bt118.2 then (some (bt120.2 == 3)) else (some false)) else (some false)) else (some false)) else (some false)) else (some false)) else (some false)))))) else (none))) else (none)) else (none)) else ((apply_All.f k x8 x9).bind fun bt122 => ((epitomeref07_All.f k x8 x9).bind fun bt124 => ((apply_All.f k (⟨#[255]⟩ : ByteArray) ([] : List (List (S26)))).bind fun bt126 => (if x7 = true then (if x10.toList = x12.toList then (if x11 = x13 then (if x11 = 0 then (if bt122.1.toList = bt124.1.toList then (if bt122.2 = bt124.2 then (some (bt126.2 == 3)) else (some false)) else (some false)) else (some false)) else (some false)) else (some false)) else (some false)))))
def epitomelaw07_ApplyRow.f (k : Nat) (a0 : ByteArray) (l1 : List (List (S26))) (a2 : Int) : Option (Bool) := (epitomelaw07_shown.f k).bind fun t101 => (if 0 ≤ (mn (a0.size : Int) 20) then (if (mn (a0.size : Int) 20) ≤ (a0.size : Int) then ((epitomeref01_Fit.f k (a0.extract 0 ((mn (a0.size : Int) 20) : Int).toNat)).bind fun t102 => ((points_Count.f t102).bind fun t103 => ((epitomeref04_Chain.f k l1 t103).bind fun t104 => ((apply_All.f k t102 t104).bind fun bt107 => ((epitomeref07_All.f k t102 t104).bind fun bt109 => (if (wrap64 (a2)) < (t104.length : Int) then (epitomelaw07_ApplyRow.j0 k l1 a2 t101 t102 t104 bt107.1 bt107.2 bt109.1 bt109.2 (decide ((wrap64 (a2)) < (l1.length : Int)))) else (epitomelaw07_ApplyRow.j0 k l1 a2 t101 t102 t104 bt107.1 bt107.2 bt109.1 bt109.2 false))))))) else (none)) else (none))
set_option maxHeartbeats 8000000 in
set_option maxRecDepth 100000 in
theorem epitomelaw07_ApplyRow.calls (k : Nat) (a0 : ByteArray) (A1 : Option Addr) (c1 : Nat) (l1 : List (List (S26))) (a2 : Int) (r : Bool) (hr_ : Aside0 (r = true)) (w : World) (hG : Glob w) (hr1 : Kd.C (Kd.slice 26 k26) w A1 l1.length l1) (hc1 : l1.length ≤ c1) (h : epitomelaw07_ApplyRow.f k a0 l1 a2 = some r) :
    Calls Tryd.prog 10 #[.string a0, .slice A1 l1.length c1, .int .u8 a2] w fun e w' => e = .returned (.bool r) ∧ Below w.heap.size w w' := by
  have HG := Aside0.mk hG
  clear hG
  have HR1 := Aside0.mk hr1
  have HC1 := Aside0.mk hc1
  clear hr1 hc1
  have HB := Aside0.mk (Below.refl w.heap.size w)
  have H : ((epitomelaw07_shown.f k).bind fun t101 => (if 0 ≤ (mn (a0.size : Int) 20) then (if (mn (a0.size : Int) 20) ≤ (a0.size : Int) then ((epitomeref01_Fit.f k (a0.extract 0 ((mn (a0.size : Int) 20) : Int).toNat)).bind fun t102 => ((points_Count.f t102).bind fun t103 => ((epitomeref04_Chain.f k l1 t103).bind fun t104 => ((apply_All.f k t102 t104).bind fun bt107 => ((epitomeref07_All.f k t102 t104).bind fun bt109 => (if (wrap64 (a2)) < (t104.length : Int) then (epitomelaw07_ApplyRow.j0 k l1 a2 t101 t102 t104 bt107.1 bt107.2 bt109.1 bt109.2 (decide ((wrap64 (a2)) < (l1.length : Int)))) else (epitomelaw07_ApplyRow.j0 k l1 a2 t101 t102 t104 bt107.1 bt107.2 bt109.1 bt109.2 false))))))) else (none)) else (none))) = some r := h
  clear h
  replace H := Option.bind_eq_some_iff.mp H
  obtain ⟨t101, A40, H⟩ := H
  replace H : (if 0 ≤ (mn (a0.size : Int) 20) then (if (mn (a0.size : Int) 20) ≤ (a0.size : Int) then ((epitomeref01_Fit.f k (a0.extract 0 ((mn (a0.size : Int) 20) : Int).toNat)).bind fun t102 => ((points_Count.f t102).bind fun t103 => ((epitomeref04_Chain.f k l1 t103).bind fun t104 => ((apply_All.f k t102 t104).bind fun bt107 => ((epitomeref07_All.f k t102 t104).bind fun bt109 => (if (wrap64 (a2)) < (t104.length : Int) then (epitomelaw07_ApplyRow.j0 k l1 a2 t101 t102 t104 bt107.1 bt107.2 bt109.1 bt109.2 (decide ((wrap64 (a2)) < (l1.length : Int)))) else (epitomelaw07_ApplyRow.j0 k l1 a2 t101 t102 t104 bt107.1 bt107.2 bt109.1 bt109.2 false))))))) else (none)) else (none)) = some r := H
  have A4 := Aside0.mk A40
  clear A40
  obtain ⟨ji5, hji5⟩ : ∃ j_ : Int, (mn (a0.size : Int) 20) = j_ := ⟨_, rfl⟩
  replace H : (if 0 ≤ (ji5) then (if (ji5) ≤ (a0.size : Int) then ((epitomeref01_Fit.f k (a0.extract 0 ((ji5) : Int).toNat)).bind fun t102 => ((points_Count.f t102).bind fun t103 => ((epitomeref04_Chain.f k l1 t103).bind fun t104 => ((apply_All.f k t102 t104).bind fun bt107 => ((epitomeref07_All.f k t102 t104).bind fun bt109 => (if (wrap64 (a2)) < (t104.length : Int) then (epitomelaw07_ApplyRow.j0 k l1 a2 t101 t102 t104 bt107.1 bt107.2 bt109.1 bt109.2 (decide ((wrap64 (a2)) < (l1.length : Int)))) else (epitomelaw07_ApplyRow.j0 k l1 a2 t101 t102 t104 bt107.1 bt107.2 bt109.1 bt109.2 false))))))) else (none)) else (none)) = some r := by first | (rw [hji5] at H; exact H) | (simp only [hji5] at H ⊢; exact H)
  (try rw [hji5] at A4)
  (try (have hji5h : ji5 ≤ 20 := by (rw [← hji5]; unfold mn; (repeat' split) <;> omega)))
  (try (have hji5g : ji5 ≤ 64 := by omega))
  (try (have hji5l : 0 ≤ ji5 := by (rw [← hji5]; unfold mn; (repeat' split) <;> omega)))
  (try (have hji5m : 0 ≤ ji5 := by omega))
  have hji5_ : (if 20 < (a0.size : Int) then 20 else (a0.size : Int)) = ji5 := hji5
  by_cases c6 : 0 ≤ (ji5)
  · rw [if_pos c6] at H
    have c6b0 := eq_true c6
    have c6b1 : decide (0 ≤ (ji5)) = true := decide_eq_true c6
    clear c6
    by_cases c7 : (ji5) ≤ (a0.size : Int)
    · rw [if_pos c7] at H
      have c7b0 := eq_true c7
      have c7b1 : decide ((ji5) ≤ (a0.size : Int)) = true := decide_eq_true c7
      clear c7
      replace H := Option.bind_eq_some_iff.mp H
      obtain ⟨t102, A80, H⟩ := H
      replace H : ((points_Count.f t102).bind fun t103 => ((epitomeref04_Chain.f k l1 t103).bind fun t104 => ((apply_All.f k t102 t104).bind fun bt107 => ((epitomeref07_All.f k t102 t104).bind fun bt109 => (if (wrap64 (a2)) < (t104.length : Int) then (epitomelaw07_ApplyRow.j0 k l1 a2 t101 t102 t104 bt107.1 bt107.2 bt109.1 bt109.2 (decide ((wrap64 (a2)) < (l1.length : Int)))) else (epitomelaw07_ApplyRow.j0 k l1 a2 t101 t102 t104 bt107.1 bt107.2 bt109.1 bt109.2 false)))))) = some r := H
      have A8 := Aside0.mk A80
      clear A80
      replace H := Option.bind_eq_some_iff.mp H
      obtain ⟨t103, A90, H⟩ := H
      replace H : ((epitomeref04_Chain.f k l1 t103).bind fun t104 => ((apply_All.f k t102 t104).bind fun bt107 => ((epitomeref07_All.f k t102 t104).bind fun bt109 => (if (wrap64 (a2)) < (t104.length : Int) then (epitomelaw07_ApplyRow.j0 k l1 a2 t101 t102 t104 bt107.1 bt107.2 bt109.1 bt109.2 (decide ((wrap64 (a2)) < (l1.length : Int)))) else (epitomelaw07_ApplyRow.j0 k l1 a2 t101 t102 t104 bt107.1 bt107.2 bt109.1 bt109.2 false))))) = some r := H
      have A9 := Aside0.mk A90
      clear A90
      replace H := Option.bind_eq_some_iff.mp H
      obtain ⟨t104, A100, H⟩ := H
      replace H : ((apply_All.f k t102 t104).bind fun bt107 => ((epitomeref07_All.f k t102 t104).bind fun bt109 => (if (wrap64 (a2)) < (t104.length : Int) then (epitomelaw07_ApplyRow.j0 k l1 a2 t101 t102 t104 bt107.1 bt107.2 bt109.1 bt109.2 (decide ((wrap64 (a2)) < (l1.length : Int)))) else (epitomelaw07_ApplyRow.j0 k l1 a2 t101 t102 t104 bt107.1 bt107.2 bt109.1 bt109.2 false)))) = some r := H
      have A10 := Aside0.mk A100
      clear A100
      replace H := Option.bind_eq_some_iff.mp H
      obtain ⟨⟨t107, t108⟩, A110, H⟩ := H
      replace H : ((epitomeref07_All.f k t102 t104).bind fun bt109 => (if (wrap64 (a2)) < (t104.length : Int) then (epitomelaw07_ApplyRow.j0 k l1 a2 t101 t102 t104 t107 t108 bt109.1 bt109.2 (decide ((wrap64 (a2)) < (l1.length : Int)))) else (epitomelaw07_ApplyRow.j0 k l1 a2 t101 t102 t104 t107 t108 bt109.1 bt109.2 false))) = some r := H
      have A11 := Aside0.mk A110
      clear A110
      replace H := Option.bind_eq_some_iff.mp H
      obtain ⟨⟨t109, t110⟩, A120, H⟩ := H
      replace H : (if (wrap64 (a2)) < (t104.length : Int) then (epitomelaw07_ApplyRow.j0 k l1 a2 t101 t102 t104 t107 t108 t109 t110 (decide ((wrap64 (a2)) < (l1.length : Int)))) else (epitomelaw07_ApplyRow.j0 k l1 a2 t101 t102 t104 t107 t108 t109 t110 false)) = some r := H
      have A12 := Aside0.mk A120
      clear A120
      have HC13 := Aside0.mk H
      clear H
      go_enter Tryd.func10, Tryd.ntmps10
      go_upto_region 6 with (first | ((with_reducible refine gate_callee (f := 41) rfl ?_); refine goesL_ (some 20) rfl rfl Tryd.func41 (by kernel_rfl) rfl #[] rfl (by (try simp only [List.map_toArray, List.map_cons, List.map_nil]); first | done | rfl | (simp only [List.length_drop, List.length_take]; rfl)) ?_; (with_reducible refine (epitomelaw07_shown.calls k  t101 _ ?side1 A4.out).mono ?_); (case side1 => first | (with_reducible exact HG.out) | exact Glob.below HG.out (by repeat (first | (with_reducible first | exact HB.out | apply below_alloc | apply pw_below_drewN | apply below_drew1) | exact HB.out)) | exact Glob.drawn HG.out (by repeat (first | exact Drawn0.refl _ | apply Drawn0.step))); rintro e w14 ⟨rfl, hb⟩; refine ⟨_, rfl, ?_⟩; have n0_ := Aside0.mk (below_step (by repeat (first | (with_reducible first | exact HB.out | apply below_alloc | apply pw_below_drewN | apply below_drew1) | exact HB.out)) hb); clear HB; have HB := n0_; clear n0_; (try clear hb); (try clear hb2); (try clear hk); (try clear hi)) | ((with_reducible refine gate_callee (f := 14) rfl ?_); refine goesL_ (some 26) rfl rfl Tryd.func14 (by kernel_rfl) rfl #[.string (a0.extract 0 ((ji5) : Int).toNat)] rfl (by (try simp only [List.map_toArray, List.map_cons, List.map_nil]); first | done | (simp only [hji5]; rfl) | rfl | (simp only [List.length_drop, List.length_take]; rfl)) ?_; (with_reducible refine (epitomeref01_Fit.calls k (a0.extract 0 ((ji5) : Int).toNat) t102 _ A8.out).mono ?_); rintro e w15 ⟨rfl, hb⟩; refine ⟨_, rfl, ?_⟩; have n0_ := Aside0.mk (below_step (by repeat (first | (with_reducible first | exact HB.out | apply below_alloc | apply pw_below_drewN | apply below_drew1) | exact HB.out)) hb); clear HB; have HB := n0_; clear n0_; (try clear hb); (try clear hb2); (try clear hk); (try clear hi)) | ((with_reducible refine gate_callee (f := 17) rfl ?_); refine goesL_ (some 29) rfl rfl Tryd.func17 (by kernel_rfl) rfl #[.string t102] rfl (by (try simp only [List.map_toArray, List.map_cons, List.map_nil]); first | done | rfl | (simp only [List.length_drop, List.length_take]; rfl)) ?_; (with_reducible refine (points_Count.calls t102 t103 _ ?side1 A9.out).mono ?_); (case side1 => first | (with_reducible exact HG.out) | exact Glob.below HG.out (by repeat (first | (with_reducible first | exact HB.out | apply below_alloc | apply pw_below_drewN | apply below_drew1) | exact HB.out)) | exact Glob.drawn HG.out (by repeat (first | exact Drawn0.refl _ | apply Drawn0.step))); rintro e w16 ⟨rfl, hb⟩; refine ⟨_, rfl, ?_⟩; have n0_ := Aside0.mk (below_step (by repeat (first | (with_reducible first | exact HB.out | apply below_alloc | apply pw_below_drewN | apply below_drew1) | exact HB.out)) hb); clear HB; have HB := n0_; clear n0_; (try clear hb); (try clear hb2); (try clear hk); (try clear hi)) | ((with_reducible refine gate_callee (f := 25) rfl ?_); refine goesL_ (some 30) rfl rfl Tryd.func25 (by kernel_rfl) rfl #[.slice A1 l1.length c1, .int .i64 t103] rfl (by (try simp only [List.map_toArray, List.map_cons, List.map_nil]); first | done | rfl | (simp only [List.length_drop, List.length_take]; rfl)) ?_; (with_reducible refine (epitomeref04_Chain.calls k _ _ l1 t103 t104 _ ?side1 ?side2 A10.out).mono ?_); (case side1 => repeat (first | exact (Kd.C_below HR1.out HB.out) | (with_reducible refine Kd.C_alloc ?_ _) | (with_reducible refine Kd.C_drewN ?_ _) | (with_reducible refine Kd.C_drew ?_))); (case side2 => exact HC1.out); rintro e w17 ⟨v105, rfl, ho0, hb⟩; refine ⟨_, rfl, ?_⟩; have n0_ := Aside0.mk (Kd.S_lower ho0 (below_size (by repeat (first | (with_reducible first | exact HB.out | apply below_alloc | apply pw_below_drewN | apply below_drew1) | exact HB.out)))); have n1_ := Aside0.mk (below_step (by repeat (first | (with_reducible first | exact HB.out | apply below_alloc | apply pw_below_drewN | apply below_drew1) | exact HB.out)) hb); clear HB; have HO106 := n0_; have HB := n1_; clear n0_ n1_; (try clear hb); (try clear hb2); (try clear hk); (try clear hi); (try clear ho0); obtain ⟨Ao18, co18, eo18⟩ := Kd.S_slice HO106.out; subst eo18) | ((with_reducible refine gate_callee (f := 27) rfl ?_); refine goesL_ (some 34) rfl rfl Tryd.func27 (by kernel_rfl) rfl #[.string t102, .slice Ao18 t104.length co18] rfl (by (try simp only [List.map_toArray, List.map_cons, List.map_nil]); first | done | rfl | (simp only [List.length_drop, List.length_take]; rfl)) ?_; (with_reducible refine (apply_All.calls k t102 _ _ t104 t107 t108 _ ?side1 ?side2 ?side3 A11.out).mono ?_); (case side1 => first | (with_reducible exact HG.out) | exact Glob.below HG.out (by repeat (first | (with_reducible first | exact HB.out | apply below_alloc | apply pw_below_drewN | apply below_drew1) | exact HB.out)) | exact Glob.drawn HG.out (by repeat (first | exact Drawn0.refl _ | apply Drawn0.step))); (case side2 => repeat (first | exact (Kd.S_reads' HO106.out).2.2 | (with_reducible refine Kd.C_alloc ?_ _) | (with_reducible refine Kd.C_drewN ?_ _) | (with_reducible refine Kd.C_drew ?_))); (case side3 => exact (Kd.S_reads' HO106.out).2.1); rintro e w19 ⟨rfl, hb⟩; refine ⟨_, rfl, ?_⟩; have n0_ := Aside0.mk (Kd.S_below (by (with_reducible repeat (first | apply Kd.S_alloc | apply Kd.S_drewN | apply Kd.S_drew)); exact HO106.out) hb); have n1_ := Aside0.mk (below_step (by repeat (first | (with_reducible first | exact HB.out | apply below_alloc | apply pw_below_drewN | apply below_drew1) | exact HB.out)) hb); clear HO106; clear HB; have HO106 := n0_; have HB := n1_; clear n0_ n1_; (try clear hb); (try clear hb2); (try clear hk); (try clear hi)) | ((with_reducible refine gate_callee (f := 42) rfl ?_); refine goesL_ (some 40) rfl rfl Tryd.func42 (by kernel_rfl) rfl #[.string t102, .slice Ao18 t104.length co18] rfl (by (try simp only [List.map_toArray, List.map_cons, List.map_nil]); first | done | rfl | (simp only [List.length_drop, List.length_take]; rfl)) ?_; (with_reducible refine (epitomeref07_All.calls k t102 _ _ t104 t109 t110 _ ?side1 ?side2 A12.out).mono ?_); (case side1 => repeat (first | exact (Kd.S_reads' HO106.out).2.2 | (with_reducible refine Kd.C_alloc ?_ _) | (with_reducible refine Kd.C_drewN ?_ _) | (with_reducible refine Kd.C_drew ?_))); (case side2 => exact (Kd.S_reads' HO106.out).2.1); rintro e w20 ⟨rfl, hb⟩; refine ⟨_, rfl, ?_⟩; have n0_ := Aside0.mk (Kd.S_below (by (with_reducible repeat (first | apply Kd.S_alloc | apply Kd.S_drewN | apply Kd.S_drew)); exact HO106.out) hb); have n1_ := Aside0.mk (below_step (by repeat (first | (with_reducible first | exact HB.out | apply below_alloc | apply pw_below_drewN | apply below_drew1) | exact HB.out)) hb); clear HO106; clear HB; have HO106 := n0_; have HB := n1_; clear n0_ n1_; (try clear hb); (try clear hb2); (try clear hk); (try clear hi)))
      (try simp only [Act.put, List.setIfInBounds_toArray, List.set_cons_zero, List.set_cons_succ])
      go_cut [54] (fun v54 wc => ∃ (kq : Nat) (x54_12 : Bool), v54 = .bool x54_12 ∧ Aside0 (epitomelaw07_ApplyRow.j0 kq l1 a2 t101 t102 t104 t107 t108 t109 t110 x54_12 = some r) ∧ Aside0 (kq ≤ k) ∧ Aside0 (Kd.S (Kd.slice 26 k26) 27 wc w.heap.size (fun _ => True) (.slice Ao18 t104.length co18) t104) ∧ Aside0 (Below w.heap.size w wc))
      case first =>
        have H := HC13.out
        clear HC13
        by_cases c21 : (wrap64 (a2)) < (t104.length : Int)
        · rw [if_pos c21] at H
          have c21b0 : decide ((wrap64 (a2)) < (t104.length : Int)) = true := decide_eq_true c21
          clear c21
          (first | rw [c21b0] | (simp only [i64_w, i32_w]; rw [c21b0]) | skip)
          have H' := Aside0.mk H
          clear H
          go_wp2
          go_meet
          case rel => exact ⟨_, (decide ((wrap64 (a2)) < (l1.length : Int))), (by first | rfl | (simp; done) | (simp [*]; done) | (simp [isEmpty_bne]; done)), H', ⟨by first | omega | exact Nat.le_refl _⟩, ⟨by (with_reducible repeat (first | apply Kd.S_alloc | apply Kd.S_drewN | apply Kd.S_drew)); exact HO106.out⟩, ⟨by repeat (first | (with_reducible first | exact HB.out | apply below_alloc | apply pw_below_drewN | apply below_drew1) | exact HB.out)⟩⟩
        · rw [if_neg c21] at H
          have c21b0 : decide ((wrap64 (a2)) < (t104.length : Int)) = false := decide_eq_false c21
          clear c21
          (first | rw [c21b0] | (simp only [i64_w, i32_w]; rw [c21b0]) | skip)
          have H' := Aside0.mk H
          clear H
          go_wp2
          go_meet
          case rel => exact ⟨_, (false), (by first | rfl | (simp; done) | (simp [*]; done) | (simp [isEmpty_bne]; done)), H', ⟨by first | omega | exact Nat.le_refl _⟩, ⟨by (with_reducible repeat (first | apply Kd.S_alloc | apply Kd.S_drewN | apply Kd.S_drew)); exact HO106.out⟩, ⟨by repeat (first | (with_reducible first | exact HB.out | apply below_alloc | apply pw_below_drewN | apply below_drew1) | exact HB.out)⟩⟩
      case rest =>
        clear HC13
        try clear c1
        try clear c2
        try clear p2
        try clear c4
        try clear c6
        try clear c6b0
        try clear c6b1
        try clear p6
        try clear c7
        try clear c7b0
        try clear c7b1
        try clear c10
        try clear c14
        try clear c17
        try clear c21
        try clear c21b0
        obtain ⟨kq, x54_12, rfl, HA, HJ12, HO_9, HB⟩ := hcut
        cases kq with
        | zero => exact absurd HA.out (by simp [epitomelaw07_ApplyRow.j0])
        | succ kj12 =>
          have H := HA.out
          clear HA
          simp only [epitomelaw07_ApplyRow.j0] at H
          by_cases c22 : x54_12 = true
          · subst c22
            have H1 : (if 0 ≤ a2 then (if a2 < (l1.length : Int) then ((epitomelaw07_few.f kj12 (rd_L4 l1 a2)).bind fun t112 => (if a2 < (t104.length : Int) then ((some (t104.set (a2 : Int).toNat t112 : List (List (S26)))).bind fun y115 => ((apply_All.f kj12 t102 y115).bind fun bt116 => ((epitomeref07_All.f kj12 t102 y115).bind fun bt118 => ((apply_All.f kj12 (⟨#[255]⟩ : ByteArray) ([] : List (List (S26)))).bind fun bt120 => (if t101 = true then (if t107.toList = t109.toList then (if t108 = t110 then (if t108 = 0 then (if bt116.1.toList = bt118.1.toList then (if bt116.2 = bt118.2 then (some (bt120.2 == 3)) else (some false)) else (some false)) else (some false)) else (some false)) else (some false)) else (some false)))))) else (none))) else (none)) else (none)) = some r := by rw [if_pos rfl] at H; exact H
            clear H
            have H := H1
            clear H1
            by_cases c23 : 0 ≤ a2
            · rw [if_pos c23] at H
              have c23b0 : decide (0 ≤ a2) = true := decide_eq_true c23
              clear c23
              by_cases c24 : a2 < (l1.length : Int)
              · rw [if_pos c24] at H
                have c24b0 : decide (a2 < (l1.length : Int)) = true := decide_eq_true c24
                clear c24
                replace H := Option.bind_eq_some_iff.mp H
                obtain ⟨t112, A250, H⟩ := H
                replace H : (if a2 < (t104.length : Int) then ((some (t104.set (a2 : Int).toNat t112 : List (List (S26)))).bind fun y115 => ((apply_All.f kj12 t102 y115).bind fun bt116 => ((epitomeref07_All.f kj12 t102 y115).bind fun bt118 => ((apply_All.f kj12 (⟨#[255]⟩ : ByteArray) ([] : List (List (S26)))).bind fun bt120 => (if t101 = true then (if t107.toList = t109.toList then (if t108 = t110 then (if t108 = 0 then (if bt116.1.toList = bt118.1.toList then (if bt116.2 = bt118.2 then (some (bt120.2 == 3)) else (some false)) else (some false)) else (some false)) else (some false)) else (some false)) else (some false)))))) else (none)) = some r := H
                have A25 := Aside0.mk A250
                clear A250
                by_cases c26 : a2 < (t104.length : Int)
                · rw [if_pos c26] at H
                  have c26b0 : decide (a2 < (t104.length : Int)) = true := decide_eq_true c26
                  clear c26
                  obtain ⟨y115, hy115⟩ : ∃ y_ : List (List (S26)), y_ = (t104.set (a2 : Int).toNat t112) := ⟨_, rfl⟩
                  replace H : ((apply_All.f kj12 t102 y115).bind fun bt116 => ((epitomeref07_All.f kj12 t102 y115).bind fun bt118 => ((apply_All.f kj12 (⟨#[255]⟩ : ByteArray) ([] : List (List (S26)))).bind fun bt120 => (if t101 = true then (if t107.toList = t109.toList then (if t108 = t110 then (if t108 = 0 then (if bt116.1.toList = bt118.1.toList then (if bt116.2 = bt118.2 then (some (bt120.2 == 3)) else (some false)) else (some false)) else (some false)) else (some false)) else (some false)) else (some false))))) = some r := by first | (rw [hy115]; with_reducible exact H) | (have H2_ := (Option.bind_some _ _).symm.trans H; rw [hy115]; with_reducible exact H2_) | (have H2_ := (Option.bind_some _ _).symm.trans H; with_reducible exact H2_) | with_reducible exact H | (rw [hy115]; exact H) | exact H
                  have Ny115 := Aside0.mk hy115
                  clear hy115
                  replace H := Option.bind_eq_some_iff.mp H
                  obtain ⟨⟨t116, t117⟩, A280, H⟩ := H
                  replace H : ((epitomeref07_All.f kj12 t102 y115).bind fun bt118 => ((apply_All.f kj12 (⟨#[255]⟩ : ByteArray) ([] : List (List (S26)))).bind fun bt120 => (if t101 = true then (if t107.toList = t109.toList then (if t108 = t110 then (if t108 = 0 then (if t116.toList = bt118.1.toList then (if t117 = bt118.2 then (some (bt120.2 == 3)) else (some false)) else (some false)) else (some false)) else (some false)) else (some false)) else (some false)))) = some r := H
                  have A28 := Aside0.mk A280
                  clear A280
                  replace H := Option.bind_eq_some_iff.mp H
                  obtain ⟨⟨t118, t119⟩, A290, H⟩ := H
                  replace H : ((apply_All.f kj12 (⟨#[255]⟩ : ByteArray) ([] : List (List (S26)))).bind fun bt120 => (if t101 = true then (if t107.toList = t109.toList then (if t108 = t110 then (if t108 = 0 then (if t116.toList = t118.toList then (if t117 = t119 then (some (bt120.2 == 3)) else (some false)) else (some false)) else (some false)) else (some false)) else (some false)) else (some false))) = some r := H
                  have A29 := Aside0.mk A290
                  clear A290
                  replace H := Option.bind_eq_some_iff.mp H
                  obtain ⟨⟨t120, t121⟩, A300, H⟩ := H
                  replace H : (if t101 = true then (if t107.toList = t109.toList then (if t108 = t110 then (if t108 = 0 then (if t116.toList = t118.toList then (if t117 = t119 then (some (t121 == 3)) else (some false)) else (some false)) else (some false)) else (some false)) else (some false)) else (some false)) = some r := H
                  have A30 := Aside0.mk A300
                  clear A300
                  by_cases c31 : t101 = true
                  · subst c31
                    have H1 : (if t107.toList = t109.toList then (if t108 = t110 then (if t108 = 0 then (if t116.toList = t118.toList then (if t117 = t119 then (some (t121 == 3)) else (some false)) else (some false)) else (some false)) else (some false)) else (some false)) = some r := by rw [if_pos rfl] at H; exact H
                    clear H
                    have H := H1
                    clear H1
                    by_cases c32 : t107.toList = t109.toList
                    · rw [if_pos c32] at H
                      have c32b0 : (t107.toList == t109.toList) = true := beq_iff_eq.mpr c32
                      have c32b1 : (t107.toList != t109.toList) = false := bne_eq_false_iff_eq.mpr c32
                      clear c32
                      by_cases c33 : t108 = t110
                      · rw [if_pos c33] at H
                        have c33b0 : (t108 == t110) = true := beq_iff_eq.mpr c33
                        have c33b1 : (t108 != t110) = false := bne_eq_false_iff_eq.mpr c33
                        clear c33
                        by_cases c34 : t108 = 0
                        · rw [if_pos c34] at H
                          have c34b0 : (t108 == 0) = true := beq_iff_eq.mpr c34
                          have c34b1 : (t108 != 0) = false := bne_eq_false_iff_eq.mpr c34
                          clear c34
                          by_cases c35 : t116.toList = t118.toList
                          · rw [if_pos c35] at H
                            have c35b0 : (t116.toList == t118.toList) = true := beq_iff_eq.mpr c35
                            have c35b1 : (t116.toList != t118.toList) = false := bne_eq_false_iff_eq.mpr c35
                            clear c35
                            by_cases c36 : t117 = t119
                            · rw [if_pos c36] at H
                              have c36b0 : (t117 == t119) = true := beq_iff_eq.mpr c36
                              have c36b1 : (t117 != t119) = false := bne_eq_false_iff_eq.mpr c36
                              clear c36
                              obtain rfl := Option.some.inj H
                              have p111 : 0 ≤ (a2 : Int) := of_decide_eq_true (by first | (with_reducible assumption) | assumption)
                              have q111 : a2 < (l1.length : Int) := of_decide_eq_true (by first | (with_reducible assumption) | assumption)
                              obtain ⟨ad111, A111_0, c111_0, e111, hx111_0, hl111_0, hi111_0⟩ := at_L4 HR1.out a2 p111 q111
                              cases e111
                              replace hx111_0 := (HB.out.cell (World.block_lt_of_cell? w _ hx111_0)).trans hx111_0
                              have HR111_0 := Aside0.mk hi111_0
                              have HC111_0 := Aside0.mk hl111_0
                              clear hi111_0 hl111_0
                              replace p111 := eq_true p111
                              replace q111 := eq_true q111
                              go_wp2_with (first | ((with_reducible refine gate_callee (f := 43) rfl ?_); refine goesL_ (some 61) rfl rfl Tryd.func43 (by kernel_rfl) rfl #[.slice A111_0 (rd_L4 l1 a2).length c111_0] rfl (by (try simp only [List.map_toArray, List.map_cons, List.map_nil]); first | done | rfl | (simp only [List.length_drop, List.length_take]; rfl)) ?_; (with_reducible refine (epitomelaw07_few.calls kj12 _ _ (rd_L4 l1 a2) t112 _ ?side1 ?side2 A25.out).mono ?_); (case side1 => repeat (first | exact (Kd.C_below HR111_0.out HB.out) | (with_reducible refine Kd.C_alloc ?_ _) | (with_reducible refine Kd.C_drewN ?_ _) | (with_reducible refine Kd.C_drew ?_))); (case side2 => exact HC111_0.out); rintro e w37 ⟨v113, rfl, ho0, hb⟩; obtain ⟨Av_, cv_, rfl⟩ := Kd.R_slice ho0; refine ⟨_, rfl, ?_⟩; have n0_ := Aside0.mk (Kd.S_elder' (by (with_reducible repeat (first | apply Kd.S_alloc | apply Kd.S_drewN | apply Kd.S_drew)); exact HO_9.out) (Kd.R_base ho0) hb); have n1_ := Aside0.mk (Kd.R_lower ho0 (below_size (by repeat (first | (with_reducible first | exact HB.out | apply below_alloc | apply pw_below_drewN | apply below_drew1) | exact HB.out)))); have n2_ := Aside0.mk (below_step (by repeat (first | (with_reducible first | exact HB.out | apply below_alloc | apply pw_below_drewN | apply below_drew1) | exact HB.out)) hb); clear HO_9; clear HB; have HO_9 := n0_; have HO114 := n1_; have HB := n2_; clear n0_ n1_ n2_; (try clear hb); (try clear hb2); (try clear hk); (try clear hi); (try clear ho0); have p27 : 0 ≤ (a2 : Int) := of_decide_eq_true (by first | (with_reducible assumption) | assumption); have q27 : (a2 : Int) < ((t104.length : Int) : Int) := of_decide_eq_true (by first | (with_reducible assumption) | assumption); obtain ⟨go27, co27, eo27, gb27, gl27, cl27, HG27⟩ := Kd.S_form HO_9.out (by omega); (first | cases eo27 | (injection eo27 with ea_ en_ ec_; (first | subst ea_ | (injection ea_ with ea_; subst ea_)); subst ec_; clear en_)); have GB27 := Aside0.mk gb27; have GG27 := Aside0.mk HG27; clear gb27 gl27 HG27; obtain ⟨_, ce27, hcl27, hM27, hcc27, hfr27, _, _⟩ := Kd.S_elem HO_9.out [] (a2 : Int) p27 q27; obtain ⟨ve27_0, rfl, ge27_0⟩ := hM27; have hx27_0 := hcc27 0 _ rfl; have hf27_0 := hfr27 0; (try simp only [show ((Kd.slice 26 k26)).sz = 1 from rfl, Nat.mul_one, Nat.add_zero] at hx27_0); (try simp only [show ((Kd.slice 26 k26)).sz = 1 from rfl, Nat.mul_one, Nat.add_zero] at hf27_0); (try clear hM27); clear hcl27 hcc27 hfr27; replace p27 := eq_true p27; replace q27 := eq_true q27; have n_ := Aside0.mk (Kd.S_mono (ok' := (fun k_ => some k_ ≠ (.slice Av_ t112.length cv_ : Value).ownBlock)) HO_9.out (fun k_ hk => hk.2)); clear HO_9; have HO_9 := n_; clear n_; have HX38 := Aside0.mk (show Kd.S (Kd.slice 26 k26) 27 w37 w.heap.size (fun k_ => ((fun _ => True)) k_ ∧ ¬ ((fun k_ => some k_ = (.slice Av_ t112.length cv_ : Value).ownBlock)) k_) (.slice (some ⟨go27, 0, none⟩) t104.length co18) t104 from (by (with_reducible repeat (first | apply Kd.S_alloc | apply Kd.S_drewN | apply Kd.S_drew)); exact Kd.S_mono HO_9.out (fun k_ hk => ⟨trivial, fun e_ => hk e_⟩))); obtain ⟨oki38, ce38, hcl38, hM38, hcc38, hfr38, hoki38, hH38⟩ := Kd.S_elem HX38.out [] (a2 : Int) (of_decide_eq_true (by first | (with_reducible assumption) | assumption)) (by have h_ : (a2 : Int) < ((t104.length : Int) : Int) := of_decide_eq_true (by first | (with_reducible assumption) | assumption); first | exact h_ | (have e_ := (Kd.S_reads' HO_9.out).1; omega) | simpa using h_); obtain ⟨ve38_0, rfl, ge38_0⟩ := hM38; have HP38 := Kd.S_seg hH38 (of_decide_eq_true (by first | (with_reducible assumption) | assumption)) (by have h_ : (a2 : Int) < ((t104.length : Int) : Int) := of_decide_eq_true (by first | (with_reducible assumption) | assumption); first | exact h_ | (have e_ := (Kd.S_reads' HO_9.out).1; omega) | simpa using h_) (seg := [(.slice Av_ t112.length cv_ : Value)]) (j := 0) (show 1 ≤ 1 from by decide) (x' := t112) (Kd.M_row (Kd.R_mono (Kd.R_tight rfl (Kd.R_mono (ok' := fun k_ => ((fun _ => True)) k_ ∧ k_ ≠ go27) (Kd.R_apart' (HO114.out) (Kd.S_typed HO_9.out) (by decide)) (fun k_ hk => ⟨trivial, fun e_ => (hk.2) (by rw [e_]; rfl)⟩))) (fun _ h_ => Or.inr (h_)))) (fun _ hk => hk) (fun k_ hk_ => ((Kd.R_mono (ok' := fun k_ => ((fun _ => True)) k_ ∧ k_ ≠ go27) (Kd.R_apart' (HO114.out) (Kd.S_typed HO_9.out) (by decide)) (fun k_ hk => ⟨trivial, fun e_ => (hk.2) (by rw [e_]; rfl)⟩))).1 k_ hk_.symm); have hx38_0 := hcc38 0 _ rfl; (try simp only [show ((Kd.slice 26 k26)).sz = 1 from rfl, Nat.mul_one, Nat.add_zero] at hx38_0); have hf38_0 := hfr38 0; (try simp only [show ((Kd.slice 26 k26)).sz = 1 from rfl, Nat.mul_one, Nat.add_zero] at hf38_0); (try clear hM38); clear hcl38 hcc38 hfr38 hoki38 hH38; (try simp only [show ((Kd.slice 26 k26)).sz = 1 from rfl, Nat.mul_one, Nat.add_zero] at HP38)) | ((with_reducible refine gate_store (t := 27) (p := 62) rfl ?_); refine store_event (t := 27) (p := 62) (v := ?vo_w39) (w1 := (w37.setCell ⟨go27, (a2 : Int).toNat, none⟩ ((.slice Av_ t112.length cv_ : Value)))) ?hg ?ho ?hn ?hr ?_; (case ho => rfl); (case hg => rfl); (case hn => rfl); (case hr => first | (go_simp; done) | (go_simp; rfl)); intro w39 hw; have hg : w37.grownBy w39 (some go27) := (by rw [hw]; exact HP38.2); have hp_ : Kd.S (Kd.slice 26 k26) 27 w39 w.heap.size (fun _ => True) (.slice (some ⟨go27, 0, none⟩) t104.length co18) y115 := (by rw [hw, Ny115.out]; exact HP38.1); clear HP38; have n0_ := Aside0.mk (hp_); have n1_ := Aside0.mk ((by rw [hw]; exact below_set (HB.out) GB27.out : Below w.heap.size w w39)); clear HO_9; clear HB; clear HO114; have HO_9 := n0_; have HB := n1_; clear n0_ n1_; clear hg hw hp_) | ((with_reducible refine gate_callee (f := 27) rfl ?_); refine goesL_ (some 66) rfl rfl Tryd.func27 (by kernel_rfl) rfl #[.string t102, .slice (some ⟨go27, 0, none⟩) y115.length co18] rfl (by (try simp only [List.map_toArray, List.map_cons, List.map_nil]); first | done | (rw [show y115.length = t104.length from (Kd.S_reads' HO_9.out).1.symm] <;> rfl) | rfl | (simp only [List.length_drop, List.length_take]; rfl)) ?_; (with_reducible refine (apply_All.calls kj12 t102 _ _ y115 t116 t117 _ ?side1 ?side2 ?side3 A28.out).mono ?_); (case side1 => first | (with_reducible exact HG.out) | exact Glob.below HG.out (by repeat (first | (with_reducible first | exact HB.out | apply below_alloc | apply pw_below_drewN | apply below_drew1) | exact HB.out)) | exact Glob.drawn HG.out (by repeat (first | exact Drawn0.refl _ | apply Drawn0.step))); (case side2 => repeat (first | exact (Kd.S_reads' HO_9.out).2.2 | (with_reducible refine Kd.C_alloc ?_ _) | (with_reducible refine Kd.C_drewN ?_ _) | (with_reducible refine Kd.C_drew ?_))); (case side3 => rw [show y115.length = t104.length from (Kd.S_reads' HO_9.out).1.symm]; exact (Kd.S_reads' HO_9.out).2.1); rintro e w40 ⟨rfl, hb⟩; refine ⟨_, rfl, ?_⟩; have n0_ := Aside0.mk (Kd.S_below (by (with_reducible repeat (first | apply Kd.S_alloc | apply Kd.S_drewN | apply Kd.S_drew)); exact HO_9.out) hb); have n1_ := Aside0.mk (below_step (by repeat (first | (with_reducible first | exact HB.out | apply below_alloc | apply pw_below_drewN | apply below_drew1) | exact HB.out)) hb); clear HO_9; clear HB; have HO_9 := n0_; have HB := n1_; clear n0_ n1_; (try clear hb); (try clear hb2); (try clear hk); (try clear hi); (try clear A28)) | ((with_reducible refine gate_callee (f := 42) rfl ?_); refine goesL_ (some 72) rfl rfl Tryd.func42 (by kernel_rfl) rfl #[.string t102, .slice (some ⟨go27, 0, none⟩) y115.length co18] rfl (by (try simp only [List.map_toArray, List.map_cons, List.map_nil]); first | done | (rw [show y115.length = t104.length from (Kd.S_reads' HO_9.out).1.symm] <;> rfl) | rfl | (simp only [List.length_drop, List.length_take]; rfl)) ?_; (with_reducible refine (epitomeref07_All.calls kj12 t102 _ _ y115 t118 t119 _ ?side1 ?side2 A29.out).mono ?_); (case side1 => repeat (first | exact (Kd.S_reads' HO_9.out).2.2 | (with_reducible refine Kd.C_alloc ?_ _) | (with_reducible refine Kd.C_drewN ?_ _) | (with_reducible refine Kd.C_drew ?_))); (case side2 => rw [show y115.length = t104.length from (Kd.S_reads' HO_9.out).1.symm]; exact (Kd.S_reads' HO_9.out).2.1); rintro e w41 ⟨rfl, hb⟩; refine ⟨_, rfl, ?_⟩; have n0_ := Aside0.mk (Kd.S_below (by (with_reducible repeat (first | apply Kd.S_alloc | apply Kd.S_drewN | apply Kd.S_drew)); exact HO_9.out) hb); have n1_ := Aside0.mk (below_step (by repeat (first | (with_reducible first | exact HB.out | apply below_alloc | apply pw_below_drewN | apply below_drew1) | exact HB.out)) hb); clear HO_9; clear HB; have HO_9 := n0_; have HB := n1_; clear n0_ n1_; (try clear hb); (try clear hb2); (try clear hk); (try clear hi)) | ((with_reducible refine gate_callee (f := 27) rfl ?_); refine goesL_ (some 76) rfl rfl Tryd.func27 (by kernel_rfl) rfl #[.string (⟨#[255]⟩ : ByteArray), .slice none 0 0] rfl (by (try simp only [List.map_toArray, List.map_cons, List.map_nil]); first | done | rfl | (simp only [List.length_drop, List.length_take]; rfl)) ?_; (refine (apply_All.calls kj12 (⟨#[255]⟩ : ByteArray) _ _ ([] : List (List (S26))) t120 t121 _ ?side1 ?side2 ?side3 A30.out).mono ?_); (case side1 => first | (with_reducible exact HG.out) | exact Glob.below HG.out (by repeat (first | (with_reducible first | exact HB.out | apply below_alloc | apply pw_below_drewN | apply below_drew1) | exact HB.out)) | exact Glob.drawn HG.out (by repeat (first | exact Drawn0.refl _ | apply Drawn0.step))); (case side2 => exact Kd.C_nil _ _); (case side3 => exact Nat.le_refl _); rintro e w42 ⟨rfl, hb⟩; refine ⟨_, rfl, ?_⟩; have n0_ := Aside0.mk (Kd.S_below (by (with_reducible repeat (first | apply Kd.S_alloc | apply Kd.S_drewN | apply Kd.S_drew)); exact HO_9.out) hb); have n1_ := Aside0.mk (below_step (by repeat (first | (with_reducible first | exact HB.out | apply below_alloc | apply pw_below_drewN | apply below_drew1) | exact HB.out)) hb); clear HO_9; clear HB; have HO_9 := n0_; have HB := n1_; clear n0_ n1_; (try clear hb); (try clear hb2); (try clear hk); (try clear hi); (try clear A30)))
                              go_ret
                              exact ⟨by first | rfl | (simp [errW_none, errW_some] <;> rfl) | (simp only [← hji5]; first | rfl | (simp [errW_none, errW_some] <;> rfl)) | (simp [*, errW_none, errW_some] <;> rfl), by repeat (first | (with_reducible first | exact HB.out | apply below_alloc | apply pw_below_drewN | apply below_drew1) | exact HB.out)⟩
                            · rw [if_neg c36] at H
                              have c36b0 : (t117 == t119) = false := beq_eq_false_iff_ne.mpr c36
                              have c36b1 : (t117 != t119) = true := bne_iff_ne.mpr c36
                              exact Bool.noConfusion ((Option.some.inj H).trans hr_.out)
                          · rw [if_neg c35] at H
                            have c35b0 : (t116.toList == t118.toList) = false := beq_eq_false_iff_ne.mpr c35
                            have c35b1 : (t116.toList != t118.toList) = true := bne_iff_ne.mpr c35
                            exact Bool.noConfusion ((Option.some.inj H).trans hr_.out)
                        · rw [if_neg c34] at H
                          have c34b0 : (t108 == 0) = false := beq_eq_false_iff_ne.mpr c34
                          have c34b1 : (t108 != 0) = true := bne_iff_ne.mpr c34
                          exact Bool.noConfusion ((Option.some.inj H).trans hr_.out)
                      · rw [if_neg c33] at H
                        have c33b0 : (t108 == t110) = false := beq_eq_false_iff_ne.mpr c33
                        have c33b1 : (t108 != t110) = true := bne_iff_ne.mpr c33
                        exact Bool.noConfusion ((Option.some.inj H).trans hr_.out)
                    · rw [if_neg c32] at H
                      have c32b0 : (t107.toList == t109.toList) = false := beq_eq_false_iff_ne.mpr c32
                      have c32b1 : (t107.toList != t109.toList) = true := bne_iff_ne.mpr c32
                      exact Bool.noConfusion ((Option.some.inj H).trans hr_.out)
                  · replace c31 := Bool.eq_false_iff.mpr c31
                    subst c31
                    have H1 : (some false) = some r := by rw [if_neg (show ¬ (false = true) by decide)] at H; exact H
                    clear H
                    have H := H1
                    clear H1
                    exact Bool.noConfusion ((Option.some.inj H).trans hr_.out)
                · rw [if_neg c26] at H
                  exact absurd H (by simp)
              · rw [if_neg c24] at H
                exact absurd H (by simp)
            · rw [if_neg c23] at H
              exact absurd H (by simp)
          · replace c22 := Bool.eq_false_iff.mpr c22
            subst c22
            have H1 : ((apply_All.f kj12 t102 t104).bind fun bt122 => ((epitomeref07_All.f kj12 t102 t104).bind fun bt124 => ((apply_All.f kj12 (⟨#[255]⟩ : ByteArray) ([] : List (List (S26)))).bind fun bt126 => (if t101 = true then (if t107.toList = t109.toList then (if t108 = t110 then (if t108 = 0 then (if bt122.1.toList = bt124.1.toList then (if bt122.2 = bt124.2 then (some (bt126.2 == 3)) else (some false)) else (some false)) else (some false)) else (some false)) else (some false)) else (some false))))) = some r := by rw [if_neg (show ¬ (false = true) by decide)] at H; exact H
            clear H
            have H := H1
            clear H1
            replace H := Option.bind_eq_some_iff.mp H
            obtain ⟨⟨t122, t123⟩, A790, H⟩ := H
            replace H : ((epitomeref07_All.f kj12 t102 t104).bind fun bt124 => ((apply_All.f kj12 (⟨#[255]⟩ : ByteArray) ([] : List (List (S26)))).bind fun bt126 => (if t101 = true then (if t107.toList = t109.toList then (if t108 = t110 then (if t108 = 0 then (if t122.toList = bt124.1.toList then (if t123 = bt124.2 then (some (bt126.2 == 3)) else (some false)) else (some false)) else (some false)) else (some false)) else (some false)) else (some false)))) = some r := H
            have A79 := Aside0.mk A790
            clear A790
            replace H := Option.bind_eq_some_iff.mp H
            obtain ⟨⟨t124, t125⟩, A800, H⟩ := H
            replace H : ((apply_All.f kj12 (⟨#[255]⟩ : ByteArray) ([] : List (List (S26)))).bind fun bt126 => (if t101 = true then (if t107.toList = t109.toList then (if t108 = t110 then (if t108 = 0 then (if t122.toList = t124.toList then (if t123 = t125 then (some (bt126.2 == 3)) else (some false)) else (some false)) else (some false)) else (some false)) else (some false)) else (some false))) = some r := H
            have A80 := Aside0.mk A800
            clear A800
            replace H := Option.bind_eq_some_iff.mp H
            obtain ⟨⟨t126, t127⟩, A810, H⟩ := H
            replace H : (if t101 = true then (if t107.toList = t109.toList then (if t108 = t110 then (if t108 = 0 then (if t122.toList = t124.toList then (if t123 = t125 then (some (t127 == 3)) else (some false)) else (some false)) else (some false)) else (some false)) else (some false)) else (some false)) = some r := H
            have A81 := Aside0.mk A810
            clear A810
            by_cases c82 : t101 = true
            · subst c82
              have H1 : (if t107.toList = t109.toList then (if t108 = t110 then (if t108 = 0 then (if t122.toList = t124.toList then (if t123 = t125 then (some (t127 == 3)) else (some false)) else (some false)) else (some false)) else (some false)) else (some false)) = some r := by rw [if_pos rfl] at H; exact H
              clear H
              have H := H1
              clear H1
              by_cases c83 : t107.toList = t109.toList
              · rw [if_pos c83] at H
                have c83b0 : (t107.toList == t109.toList) = true := beq_iff_eq.mpr c83
                have c83b1 : (t107.toList != t109.toList) = false := bne_eq_false_iff_eq.mpr c83
                clear c83
                by_cases c84 : t108 = t110
                · rw [if_pos c84] at H
                  have c84b0 : (t108 == t110) = true := beq_iff_eq.mpr c84
                  have c84b1 : (t108 != t110) = false := bne_eq_false_iff_eq.mpr c84
                  clear c84
                  by_cases c85 : t108 = 0
                  · rw [if_pos c85] at H
                    have c85b0 : (t108 == 0) = true := beq_iff_eq.mpr c85
                    have c85b1 : (t108 != 0) = false := bne_eq_false_iff_eq.mpr c85
                    clear c85
                    by_cases c86 : t122.toList = t124.toList
                    · rw [if_pos c86] at H
                      have c86b0 : (t122.toList == t124.toList) = true := beq_iff_eq.mpr c86
                      have c86b1 : (t122.toList != t124.toList) = false := bne_eq_false_iff_eq.mpr c86
                      clear c86
                      by_cases c87 : t123 = t125
                      · rw [if_pos c87] at H
                        have c87b0 : (t123 == t125) = true := beq_iff_eq.mpr c87
                        have c87b1 : (t123 != t125) = false := bne_eq_false_iff_eq.mpr c87
                        clear c87
                        obtain rfl := Option.some.inj H
                        go_wp2_with (first | ((with_reducible refine gate_callee (f := 27) rfl ?_); refine goesL_ (some 66) rfl rfl Tryd.func27 (by kernel_rfl) rfl #[.string t102, .slice Ao18 t104.length co18] rfl (by (try simp only [List.map_toArray, List.map_cons, List.map_nil]); first | done | rfl | (simp only [List.length_drop, List.length_take]; rfl)) ?_; (with_reducible refine (apply_All.calls kj12 t102 _ _ t104 t122 t123 _ ?side1 ?side2 ?side3 A79.out).mono ?_); (case side1 => first | (with_reducible exact HG.out) | exact Glob.below HG.out (by repeat (first | (with_reducible first | exact HB.out | apply below_alloc | apply pw_below_drewN | apply below_drew1) | exact HB.out)) | exact Glob.drawn HG.out (by repeat (first | exact Drawn0.refl _ | apply Drawn0.step))); (case side2 => repeat (first | exact (Kd.S_reads' HO_9.out).2.2 | (with_reducible refine Kd.C_alloc ?_ _) | (with_reducible refine Kd.C_drewN ?_ _) | (with_reducible refine Kd.C_drew ?_))); (case side3 => exact (Kd.S_reads' HO_9.out).2.1); rintro e w88 ⟨rfl, hb⟩; refine ⟨_, rfl, ?_⟩; have n0_ := Aside0.mk (Kd.S_below (by (with_reducible repeat (first | apply Kd.S_alloc | apply Kd.S_drewN | apply Kd.S_drew)); exact HO_9.out) hb); have n1_ := Aside0.mk (below_step (by repeat (first | (with_reducible first | exact HB.out | apply below_alloc | apply pw_below_drewN | apply below_drew1) | exact HB.out)) hb); clear HO_9; clear HB; have HO_9 := n0_; have HB := n1_; clear n0_ n1_; (try clear hb); (try clear hb2); (try clear hk); (try clear hi); (try clear A79)) | ((with_reducible refine gate_callee (f := 42) rfl ?_); refine goesL_ (some 72) rfl rfl Tryd.func42 (by kernel_rfl) rfl #[.string t102, .slice Ao18 t104.length co18] rfl (by (try simp only [List.map_toArray, List.map_cons, List.map_nil]); first | done | rfl | (simp only [List.length_drop, List.length_take]; rfl)) ?_; (with_reducible refine (epitomeref07_All.calls kj12 t102 _ _ t104 t124 t125 _ ?side1 ?side2 A80.out).mono ?_); (case side1 => repeat (first | exact (Kd.S_reads' HO_9.out).2.2 | (with_reducible refine Kd.C_alloc ?_ _) | (with_reducible refine Kd.C_drewN ?_ _) | (with_reducible refine Kd.C_drew ?_))); (case side2 => exact (Kd.S_reads' HO_9.out).2.1); rintro e w89 ⟨rfl, hb⟩; refine ⟨_, rfl, ?_⟩; have n0_ := Aside0.mk (Kd.S_below (by (with_reducible repeat (first | apply Kd.S_alloc | apply Kd.S_drewN | apply Kd.S_drew)); exact HO_9.out) hb); have n1_ := Aside0.mk (below_step (by repeat (first | (with_reducible first | exact HB.out | apply below_alloc | apply pw_below_drewN | apply below_drew1) | exact HB.out)) hb); clear HO_9; clear HB; have HO_9 := n0_; have HB := n1_; clear n0_ n1_; (try clear hb); (try clear hb2); (try clear hk); (try clear hi)) | ((with_reducible refine gate_callee (f := 27) rfl ?_); refine goesL_ (some 76) rfl rfl Tryd.func27 (by kernel_rfl) rfl #[.string (⟨#[255]⟩ : ByteArray), .slice none 0 0] rfl (by (try simp only [List.map_toArray, List.map_cons, List.map_nil]); first | done | rfl | (simp only [List.length_drop, List.length_take]; rfl)) ?_; (refine (apply_All.calls kj12 (⟨#[255]⟩ : ByteArray) _ _ ([] : List (List (S26))) t126 t127 _ ?side1 ?side2 ?side3 A81.out).mono ?_); (case side1 => first | (with_reducible exact HG.out) | exact Glob.below HG.out (by repeat (first | (with_reducible first | exact HB.out | apply below_alloc | apply pw_below_drewN | apply below_drew1) | exact HB.out)) | exact Glob.drawn HG.out (by repeat (first | exact Drawn0.refl _ | apply Drawn0.step))); (case side2 => exact Kd.C_nil _ _); (case side3 => exact Nat.le_refl _); rintro e w90 ⟨rfl, hb⟩; refine ⟨_, rfl, ?_⟩; have n0_ := Aside0.mk (Kd.S_below (by (with_reducible repeat (first | apply Kd.S_alloc | apply Kd.S_drewN | apply Kd.S_drew)); exact HO_9.out) hb); have n1_ := Aside0.mk (below_step (by repeat (first | (with_reducible first | exact HB.out | apply below_alloc | apply pw_below_drewN | apply below_drew1) | exact HB.out)) hb); clear HO_9; clear HB; have HO_9 := n0_; have HB := n1_; clear n0_ n1_; (try clear hb); (try clear hb2); (try clear hk); (try clear hi); (try clear A81)))
                        go_ret
                        exact ⟨by first | rfl | (simp [errW_none, errW_some] <;> rfl) | (simp only [← hji5]; first | rfl | (simp [errW_none, errW_some] <;> rfl)) | (simp [*, errW_none, errW_some] <;> rfl), by repeat (first | (with_reducible first | exact HB.out | apply below_alloc | apply pw_below_drewN | apply below_drew1) | exact HB.out)⟩
                      · rw [if_neg c87] at H
                        have c87b0 : (t123 == t125) = false := beq_eq_false_iff_ne.mpr c87
                        have c87b1 : (t123 != t125) = true := bne_iff_ne.mpr c87
                        exact Bool.noConfusion ((Option.some.inj H).trans hr_.out)
                    · rw [if_neg c86] at H
                      have c86b0 : (t122.toList == t124.toList) = false := beq_eq_false_iff_ne.mpr c86
                      have c86b1 : (t122.toList != t124.toList) = true := bne_iff_ne.mpr c86
                      exact Bool.noConfusion ((Option.some.inj H).trans hr_.out)
                  · rw [if_neg c85] at H
                    have c85b0 : (t108 == 0) = false := beq_eq_false_iff_ne.mpr c85
                    have c85b1 : (t108 != 0) = true := bne_iff_ne.mpr c85
                    exact Bool.noConfusion ((Option.some.inj H).trans hr_.out)
                · rw [if_neg c84] at H
                  have c84b0 : (t108 == t110) = false := beq_eq_false_iff_ne.mpr c84
                  have c84b1 : (t108 != t110) = true := bne_iff_ne.mpr c84
                  exact Bool.noConfusion ((Option.some.inj H).trans hr_.out)
              · rw [if_neg c83] at H
                have c83b0 : (t107.toList == t109.toList) = false := beq_eq_false_iff_ne.mpr c83
                have c83b1 : (t107.toList != t109.toList) = true := bne_iff_ne.mpr c83
                exact Bool.noConfusion ((Option.some.inj H).trans hr_.out)
            · replace c82 := Bool.eq_false_iff.mpr c82
              subst c82
              have H1 : (some false) = some r := by rw [if_neg (show ¬ (false = true) by decide)] at H; exact H
              clear H
              have H := H1
              clear H1
              exact Bool.noConfusion ((Option.some.inj H).trans hr_.out)
    · rw [if_neg c7] at H
      exact absurd H (by simp)
  · rw [if_neg c6] at H
    exact absurd H (by simp)
end Go.Proofs.YtkefbljogjcodaaDoor.F
end
section
namespace Go.Proofs.YtkefbljogjcodaaDoor.F
open Go.RowKit Go.Proofs.YtkefbljogjcodaaDoorW.PrintWords Go.Proofs.YtkefbljogjcodaaDoorW.PrintLast Go.Proofs.YtkefbljogjcodaaDoorW.PrintMore
attribute [local go_sem] max2_int min2_int max_two min_two max_three min_three max_four min_four cell_setCell_isSome
set_option linter.unusedVariables false
set_option linter.unusedSimpArgs false
theorem eqA26 (d : Nat) (w : World) (x0 y0 : Int) (x1 y1 : Int) (x2 y2 : ByteArray) :
    (Op.equalIn (d + 2) 26 (.agg #[.int .i64 x0, .int .i64 x1, .string x2]) (.agg #[.int .i64 y0, .int .i64 y1, .string y2])).run Tryd.prog w = .ok (x0 == y0 && (x1 == y1 && (x2.toList == y2.toList))) w := by
  refine eqA_of Tryd.underlying26 (by kernel_rfl) ?_
  refine eqf_cons (by rfl) (by go_simp; rfl) (by go_simp; rfl) (by go_simp) ?_
  refine eqf_cons (by rfl) (by go_simp; rfl) (by go_simp; rfl) (by go_simp) ?_
  exact eqf_last (by rfl) (by go_simp; rfl) (by go_simp; rfl) (by go_simp)
end Go.Proofs.YtkefbljogjcodaaDoor.F
end
section
namespace Go.Proofs.YtkefbljogjcodaaDoor.F
open Go.RowKit Go.Proofs.YtkefbljogjcodaaDoorW.PrintWords Go.Proofs.YtkefbljogjcodaaDoorW.PrintLast Go.Proofs.YtkefbljogjcodaaDoorW.PrintMore
set_option linter.unusedVariables false
set_option linter.unusedSimpArgs false
def RowAt (W : World) (A : Option Addr) (gl : Nat) (l : List S26) : Prop :=
  0 < l.length → ∃ (off : Nat) (cur : Array Value), A = some ⟨gl, off, none⟩ ∧ W.heap[gl]? = some (.cells cur 26 (0, 0)) ∧
    ∀ (j : Nat) (s : S26), l[j]? = some s → cur[off + 3 * j]? = some (.int .i64 s.f0) ∧ cur[off + 3 * j + 1]? = some (.int .i64 s.f1) ∧ cur[off + 3 * j + 2]? = some (.string s.f2)
def TxtAt (W : World) (B : Option Addr) (gt : Nat) (t : List Int) : Prop :=
  0 < t.length → ∃ (off : Nat) (cur : Array Value), B = some ⟨gt, off, none⟩ ∧ W.heap[gt]? = some (.cells cur 21 (0, 0)) ∧ ∀ (j : Nat) (r : Int), t[j]? = some r → cur[off + j]? = some (.int .i32 r)
structure Rd (W : World) (n₀ g gl gt : Nat) (A : Option Addr) (c : Nat) (B : Option Addr) (cB : Nat) (l : List S26) (t : List Int) : Prop where
  blk : W.heap[g]? = some (.cells #[.slice A l.length c, .slice B t.length cB] 109 (0, 0))
  lc : l.length ≤ c
  tc : t.length ≤ cB
  lm : c ≤ 9223372036854775807
  tm : cB ≤ 9223372036854775807
  row : RowAt W A gl l
  txt : TxtAt W B gt t
  hg : n₀ ≤ g
  hl : 0 < l.length → n₀ ≤ gl
theorem Rd.keep {W W' : World} {n₀ g gl gt c cB : Nat} {A B : Option Addr} {l : List S26} {t : List Int} (h : Rd W n₀ g gl gt A c B cB l t) (h0 : W'.heap[g]? = W.heap[g]?) (h1 : 0 < l.length → W'.heap[gl]? = W.heap[gl]?) (h2 : 0 < t.length → W'.heap[gt]? = W.heap[gt]?) : Rd W' n₀ g gl gt A c B cB l t :=
  ⟨h0.trans h.blk, h.lc, h.tc, h.lm, h.tm, fun hp => by obtain ⟨o, cur, e1, e2, e3⟩ := h.row hp; exact ⟨o, cur, e1, (h1 hp).trans e2, e3⟩, fun hp => by obtain ⟨o, cur, e1, e2, e3⟩ := h.txt hp; exact ⟨o, cur, e1, (h2 hp).trans e2, e3⟩, h.hg, h.hl⟩
theorem Rd.lt {W : World} {n₀ g gl gt c cB : Nat} {A B : Option Addr} {l : List S26} {t : List Int} (h : Rd W n₀ g gl gt A c B cB l t) : g < W.heap.size ∧ (0 < l.length → gl < W.heap.size) ∧ (0 < t.length → gt < W.heap.size) :=
  ⟨blk_lt h.blk, fun hp => by obtain ⟨_, _, _, e, _⟩ := h.row hp; exact blk_lt e, fun hp => by obtain ⟨_, _, _, e, _⟩ := h.txt hp; exact blk_lt e⟩
theorem Rd.below {W W' : World} {n₀ g gl gt c cB : Nat} {A B : Option Addr} {l : List S26} {t : List Int} (h : Rd W n₀ g gl gt A c B cB l t) (hb : Below W.heap.size W W') : Rd W' n₀ g gl gt A c B cB l t :=
  h.keep (hb.block _ h.lt.1) (fun hp => hb.block _ (h.lt.2.1 hp)) (fun hp => hb.block _ (h.lt.2.2 hp))
theorem Rd.head {W : World} {n₀ g gl gt c cB : Nat} {A B : Option Addr} {s : S26} {r : List S26} {t : List Int} (h : Rd W n₀ g gl gt A c B cB (s :: r) t) :
    ∃ off : Nat, A = some ⟨gl, off, none⟩ ∧ W.cell? ⟨gl, off, none⟩ = some (.int .i64 s.f0) ∧ W.cell? ⟨gl, off + 1, none⟩ = some (.int .i64 s.f1) ∧ W.cell? ⟨gl, off + 2, none⟩ = some (.string s.f2) ∧ W.frozen? ⟨gl, off + 1, none⟩ = false := by
  obtain ⟨off, cur, e1, e2, e3⟩ := h.row (by simp)
  obtain ⟨h0, h1, h2⟩ := e3 0 s rfl
  refine ⟨off, e1, ?_, ?_, ?_, blk_frozen e2 _⟩
  · rw [blk_cell e2 off]; exact h0
  · rw [blk_cell e2 (off + 1)]; exact h1
  · rw [blk_cell e2 (off + 2)]; exact h2
structure TakeP (w0 w : World) (n₀ g gl gt : Nat) (l' : List S26) (t' : List Int) (w' : World) : Prop where
  b : Below n₀ w0 w'
  z : w.heap.size ≤ w'.heap.size
  o : ∀ k, k < w.heap.size → k ≠ g → k ≠ gl → w'.heap[k]? = w.heap[k]?
  r : ∃ (gt' c cB : Nat) (A B : Option Addr), Rd w' n₀ g gl gt' A c B cB l' t' ∧ (0 < t'.length → gt' = gt ∨ w.heap.size ≤ gt')
end Go.Proofs.YtkefbljogjcodaaDoor.F
end
section
namespace Go.Proofs.YtkefbljogjcodaaDoor.F
open Go.RowKit Go.Proofs.YtkefbljogjcodaaDoorW.PrintWords Go.Proofs.YtkefbljogjcodaaDoorW.PrintLast Go.Proofs.YtkefbljogjcodaaDoorW.PrintMore
set_option linter.unusedVariables false
set_option linter.unusedSimpArgs false
structure CmS (w0 W : World) (gx glx gy gly : Nat) (lx : List S26) (tx : List Int) (ly : List S26) (ty : List Int) (out : List S26) (v : Value) : Prop where
  b : Below w0.heap.size w0 W
  x : ∃ (gt c cB : Nat) (A B : Option Addr), Rd W w0.heap.size gx glx gt A c B cB lx tx
  y : ∃ (gt c cB : Nat) (A B : Option Addr), Rd W w0.heap.size gy gly gt A c B cB ly ty
  n1 : gx ≠ gy
  n2 : 0 < lx.length → 0 < ly.length → glx ≠ gly
  o : Kd.R k26 26 W w0.heap.size (fun _ => True) v out
  nx : 0 < lx.length → some glx ≠ v.ownBlock
  ny : 0 < ly.length → some gly ≠ v.ownBlock
theorem CmS.below {w0 W W' : World} {gx glx gy gly : Nat} {lx ly out : List S26} {tx ty : List Int} {v : Value} (h : CmS w0 W gx glx gy gly lx tx ly ty out v) (hb : Below W.heap.size W W') : CmS w0 W' gx glx gy gly lx tx ly ty out v := by
  obtain ⟨gt, c, cB, A, B, X⟩ := h.x
  obtain ⟨gt', c', cB', A', B', Y⟩ := h.y
  exact ⟨below_step h.b hb, ⟨gt, c, cB, A, B, X.below hb⟩, ⟨gt', c', cB', A', B', Y.below hb⟩, h.n1, h.n2, Kd.R_below h.o hb, h.nx, h.ny⟩
theorem R_own_only {W : World} {base : Nat} {ok : Nat → Prop} {v : Value} {l : List S26} (h : Kd.R k26 26 W base ok v l) : Kd.R k26 26 W base (fun k => some k = v.ownBlock) v l :=
  Kd.R_flat (fun hm => by obtain rfl := k26_openM hm; exact k26_mkM _ _ _ _) h (fun k hk _ => hk.symm)
theorem R_any {W : World} {base : Nat} {ok : Nat → Prop} {v : Value} {l : List S26} (h : Kd.R k26 26 W base ok v l) : Kd.R k26 26 W base (fun _ => True) v l := Kd.R_mono h (fun _ _ => trivial)
theorem CmS.take {w0 W W' : World} {gx glx gy gly gt : Nat} {lx lx' ly out : List S26} {tx tx' ty : List Int} {v : Value} (h : CmS w0 W gx glx gy gly lx tx ly ty out v) (hp : 0 < lx.length) (hl : lx'.length ≤ lx.length) (tp : TakeP w0 W w0.heap.size gx glx gt lx' tx' W') : CmS w0 W' gx glx gy gly lx' tx' ly ty out v := by
  obtain ⟨gtx, c, cB, A, B, X⟩ := h.x
  obtain ⟨gty, c', cB', A', B', Y⟩ := h.y
  obtain ⟨gtx', c2, cB2, A2, B2, X2, _⟩ := tp.r
  obtain ⟨_, cur, _, xr, _⟩ := X.row hp
  refine ⟨tp.b, ⟨gtx', c2, cB2, A2, B2, X2⟩, ⟨gty, c', cB', A', B', Y.keep (tp.o gy Y.lt.1 (fun e => h.n1 e.symm) (blk_ne Y.blk xr (by decide))) (fun hq => ?_) (fun hq => ?_)⟩, h.n1, fun a b => h.n2 hp b, R_any (Kd.R_step (R_own_only h.o) (fun k hk hlt => tp.o k hlt ?_ ?_)), fun a => h.nx hp, h.ny⟩
  · obtain ⟨_, _, _, yr, _⟩ := Y.row hq
    exact tp.o gly (Y.lt.2.1 hq) (blk_ne yr X.blk (by decide)) (fun e => h.n2 hp hq e.symm)
  · obtain ⟨_, _, _, yt, _⟩ := Y.txt hq
    exact tp.o gty (Y.lt.2.2 hq) (blk_ne yt X.blk (by decide)) (blk_ne yt xr (by decide))
  · intro e
    rw [e] at hk
    exact Kd.R_ne h.o X.blk (by decide) hk
  · intro e
    rw [e] at hk
    exact h.nx hp hk
theorem CmS.append {w0 W w1 : World} {gx glx gy gly : Nat} {lx ly out out' : List S26} {tx ty : List Int} {v v1 : Value} (h : CmS w0 W gx glx gy gly lx tx ly ty out v) (ho : Kd.R k26 26 w1 w0.heap.size (fun _ => True) v1 out') (hb : Below w0.heap.size w0 w1) (hg : W.grownBy w1 v.ownBlock) (hat : v1.ownBlock = v.ownBlock ∨ ∃ b, v1.ownBlock = some b ∧ W.heap.size ≤ b) : CmS w0 w1 gx glx gy gly lx tx ly ty out' v1 := by
  obtain ⟨gtx, c, cB, A, B, X⟩ := h.x
  obtain ⟨gty, c', cB', A', B', Y⟩ := h.y
  have away : ∀ k, k < W.heap.size → some k ≠ v.ownBlock → some k ≠ v1.ownBlock := by
    intro k hk hn e
    rcases hat with e1 | ⟨b, e1, hb⟩
    · exact hn (e.trans e1)
    · rw [e1] at e
      injection e with e
      omega
  refine ⟨hb, ⟨gtx, c, cB, A, B, X.keep (hg.block gx X.lt.1 (Kd.R_ne h.o X.blk (by decide))) (fun hp => hg.block glx (X.lt.2.1 hp) (h.nx hp)) (fun hp => ?_)⟩, ⟨gty, c', cB', A', B', Y.keep (hg.block gy Y.lt.1 (Kd.R_ne h.o Y.blk (by decide))) (fun hp => hg.block gly (Y.lt.2.1 hp) (h.ny hp)) (fun hp => ?_)⟩, h.n1, h.n2, ho, fun hp => away _ (X.lt.2.1 hp) (h.nx hp), fun hp => away _ (Y.lt.2.1 hp) (h.ny hp)⟩
  · obtain ⟨_, _, _, e2, _⟩ := X.txt hp
    exact hg.block gtx (X.lt.2.2 hp) (Kd.R_ne h.o e2 (by decide))
  · obtain ⟨_, _, _, e2, _⟩ := Y.txt hp
    exact hg.block gty (Y.lt.2.2 hp) (Kd.R_ne h.o e2 (by decide))
end Go.Proofs.YtkefbljogjcodaaDoor.F
end
