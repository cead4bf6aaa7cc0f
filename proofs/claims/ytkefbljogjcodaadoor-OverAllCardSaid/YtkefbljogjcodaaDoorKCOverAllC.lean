import Derived.Test.YtkefbljogjcodaaDoorKCOverAllB
import Derived.Below
import Derived.Deep.Draws
import Derived.Deep.AppendLies
import Derived.Maps.AppendAt
import Derived.OwnWalk
import Derived.Laws.BytesArg
import Derived.Laws.MakeOwn
import Derived.Laws.OwnMore
import Derived.Deep.OwnRows
import Derived.Tactics
import Derived.Lib.ConvBytes
import Derived.Laws.Slices
import Derived.WalkKit
import Derived.KernelRfl
import Derived.RowKit3
import Derived.Deep.LoopGhost
import Derived.Deep.QuietTactic
import Derived.BigQuiet
import Derived.WideLaws
import Derived.Deep.DeepCutAuto
import Derived.Deep.CutBlock
import Derived.Deep.RegionHeld3
import Derived.Laws.Rows
import Derived.Lib.AppendStr
import Derived.ArgAppend
import Derived.Laws.IdiomCopy
import Derived.RowKit
import Derived.OrdersHeld
import Derived.Laws.BitsLemmas
import Derived.Laws.StructEq
import Derived.Test.YtkefbljogjcodaaDoorProg
import Derived.Handy
import Derived.Shelf.Unicode.DecodeSlow
import Derived.Ground.NamesProg
import Derived.Shelf.Unicode.ValidAny
import Derived.Laws.RangeString
import Derived.Laws.RangeAny
import Derived.Lib.RuneCount
import Derived.Laws.IdiomStrings
import Derived.Laws.Cover4
import Derived.Great.BuildSlice
import Derived.Defers
section
namespace Go.Proofs.YtkefbljogjcodaaDoor.F
open Go.RowKit Go.Proofs.YtkefbljogjcodaaDoorW.PrintWords Go.Proofs.YtkefbljogjcodaaDoorW.PrintLast Go.Proofs.YtkefbljogjcodaaDoorW.PrintMore
attribute [local go_sem] max2_int min2_int max_two min_two max_three min_three max_four min_four cell_setCell_isSome
set_option linter.unusedVariables false
set_option linter.unusedSimpArgs false
open Kd
def op_May.l0 : Nat → List (S26) → List (S26) → Int → Int → Option (Int)
  | 0, _, _, _, _ => none
  | k + 1, x0, x6, x7, x8 => if x8 < x7 then (if 0 ≤ x8 then (if x8 < (x6.length : Int) then ((span_May.f k ((rd_T26 x6 x8).f0) ((rd_T26 x6 x8).f1) ((rd_T26 x6 x8).f2)).bind fun t103 => (if t103 = 0 then (op_May.l0 k x0 x6 x7 (wrap64 (x8 + 1))) else (some t103))) else (none)) else (none)) else ((op_In.f k x0).bind fun t104 => (if t104 > 1048576 then (some 4) else (some 0)))
def op_May.f (k : Nat) (l0 : List (S26)) : Option (Int) := op_May.l0 k l0 l0 (l0.length : Int) 0
theorem op_May.mono_l : ∀ k, (∀ y0 y1 y2 y3, LeO (op_May.l0 k y0 y1 y2 y3) (op_May.l0 (k + 1) y0 y1 y2 y3))
  | 0 => fun _ _ _ _ r h => by simp [op_May.l0] at h
  | k + 1 => by
    have ih0 := op_May.mono_l k
    · intro y0 y1 y2 y3
      unfold op_May.l0
      repeat' first
      | (with_reducible exact ih0 _ _ _ _)
      | (with_reducible exact op_In.mono _ _)
      | (with_reducible exact span_May.mono _ _ _ _)
      | (with_reducible exact LeO.refl _)
      | (with_reducible exact LeO.none _)
      | (with_reducible refine LeO.ite ?_ ?_)
      | (with_reducible refine LeO.bind ?_ (fun _ => ?_))
      | exact ih0 _ _ _ _
      | exact op_In.mono _ _
      | exact span_May.mono _ _ _ _
      | exact LeO.none _
      | refine LeO.ite ?_ ?_
      | refine LeO.bind ?_ (fun _ => ?_)
theorem op_May.mono : ∀ a0 k, LeO (op_May.f k a0) (op_May.f (k + 1) a0) := by
  intro a0 k
  have ih0 := op_May.mono_l k
  unfold op_May.f
  repeat' first
      | (with_reducible exact ih0 _ _ _ _)
      | (with_reducible exact op_In.mono _ _)
      | (with_reducible exact span_May.mono _ _ _ _)
      | (with_reducible exact LeO.refl _)
      | (with_reducible exact LeO.none _)
      | (with_reducible refine LeO.ite ?_ ?_)
      | (with_reducible refine LeO.bind ?_ (fun _ => ?_))
      | exact ih0 _ _ _ _
      | exact op_In.mono _ _
      | exact span_May.mono _ _ _ _
      | exact LeO.none _
      | refine LeO.ite ?_ ?_
      | refine LeO.bind ?_ (fun _ => ?_)
set_option maxHeartbeats 8000000 in
set_option maxRecDepth 100000 in
theorem op_May.calls (k : Nat) (A0 : Option Addr) (c0 : Nat) (l0 : List (S26)) (r : Int) (w : World) (hG : Glob w) (hr0 : Kd.C k26 w A0 l0.length l0) (hc0 : l0.length ≤ c0) (h : op_May.f k l0 = some r) :
  Calls Tryd.prog 47 #[.slice A0 l0.length c0] w fun e w' => e = .returned (.int .i64 r) ∧ Below w.heap.size w w' := by
 have hu26 := Tryd.underlying26
 have HG := Am hG;clear hG;have HR0 := Am hr0;have HC0 := Am hc0;clear hr0 hc0;have HB := Am (Below.refl w.heap.size w)
 have H : (op_May.l0 k l0 l0 (l0.length : Int) 0) = some r := h
 clear h;have H' := Am H
 clear H;go_enter Tryd.func47, Tryd.ntmps47
 go_wp2
 go_loopg [8] k (fun kq v8 w' => ∃ (x8_1 : Int), v8 = .int .i64 x8_1 ∧ Aside0 (op_May.l0 kq l0 l0 (l0.length : Int) x8_1 = some r) ∧ Aside0 (kq ≤ k) ∧ Aside0 (Below w.heap.size w w'))
 case atStart => exact ⟨(0), (by first | rfl | (simp; done) | (simp [*]; done)), H', ⟨Nat.le_refl _⟩, ⟨by repeat (first | (with_reducible first | exact HB.out | apply below_alloc | apply pw_below_drewN | apply below_drew1) | exact HB.out)⟩⟩
 case round =>
  clear H';obtain ⟨x8_1, rfl, HA, HK1, HB⟩ := hrel
  cases gk with
  | zero => exact absurd HA.out (by simp [op_May.l0])
  | succ k1 =>
   have H := HA.out;clear HA;simp only [op_May.l0] at H
   by_cases c2 : x8_1 < (l0.length : Int)
   ·rw [if_pos c2] at H;have c2b0 : decide (x8_1 < (l0.length : Int)) = true := decide_eq_true c2
    clear c2;by_cases c3 : 0 ≤ x8_1
    ·rw [if_pos c3] at H;have c3b0 : decide (0 ≤ x8_1) = true := decide_eq_true c3
     clear c3;by_cases c4 : x8_1 < (l0.length : Int)
     ·rw [if_pos c4] at H;have c4b0 : decide (x8_1 < (l0.length : Int)) = true := decide_eq_true c4
      clear c4;replace H := Option.bind_eq_some_iff.mp H;obtain ⟨t103, A50, H⟩ := H;replace H : (if t103 = 0 then (op_May.l0 k1 l0 l0 (l0.length : Int) (wrap64 (x8_1 + 1))) else (some t103)) = some r := H
      have A5 := Am A50;clear A50;by_cases c6 : t103 = 0
      ·rw [if_pos c6] at H;have c6b0 : (t103 == 0) = true := beq_iff_eq.mpr c6
       have c6b1 : (t103 != 0) = false := bne_eq_false_iff_eq.mpr c6
       clear c6;have H' := Am H
       clear H;have p101 : 0 ≤ (x8_1 : Int) := of_decide_eq_true (by first | (with_reducible assumption) | assumption)
       have q101 : x8_1 < (l0.length : Int) := of_decide_eq_true (by first | (with_reducible assumption) | assumption)
       obtain ⟨ad101, e101, hx101_0, hx101_1, hx101_2⟩ := at_T26 HR0.out x8_1 p101 q101
       cases e101
       replace hx101_0 := (HB.out.cell (World.block_lt_of_cell? w _ hx101_0)).trans hx101_0
       replace hx101_1 := (HB.out.cell (World.block_lt_of_cell? w _ hx101_1)).trans hx101_1
       replace hx101_2 := (HB.out.cell (World.block_lt_of_cell? w _ hx101_2)).trans hx101_2
       replace p101 := eq_true p101;replace q101 := eq_true q101;go_wp2_with (first | ((with_reducible refine gate_dst (N := 4) rfl ?_); refine box_event ?hg (N := 4) ?hd (cs := #[.int .i64 0, .int .i64 0, .string (⟨#[]⟩ : ByteArray)]) (t := 26) ?hr ?_; (case hd => rfl); (case hg => rfl); (case hr => first | (go_simp; done) | (go_simp; rfl)); intro gb102 hg w7 hbox hb; have n0_ := Am (below_step (by repeat (first | (with_reducible first | exact HB.out | apply below_alloc | apply pw_below_drewN | apply below_drew1) | exact HB.out)) hb); have n1_ := Am (hbox); have n2_ := Am ((by rw [hg]; exact (below_size (by repeat (first | (with_reducible first | exact HB.out | apply below_alloc | apply pw_below_drewN | apply below_drew1) | exact HB.out))) : w.heap.size ≤ gb102)); have n3_ := Am ((by rw [hg]; exact (below_size (by repeat (first | (with_reducible first | exact HB.out | apply below_alloc | apply pw_below_drewN | apply below_drew1) | exact HB.out))) : w.heap.size ≤ gb102)); clear HB; have HB := n0_; have BK102 := n1_; have GW102 := n2_; have GE102 := n3_; clear n0_ n1_ n2_ n3_; clear hb hbox hg; have hcz8_0 : w7.cell? ⟨gb102, 0, none⟩ = some (.int .i64 0) := (blk_cell BK102.out 0).trans rfl; have hcz8_1 : w7.cell? ⟨gb102, 1, none⟩ = some (.int .i64 0) := (blk_cell BK102.out 1).trans rfl; have hcz8_2 : w7.cell? ⟨gb102, 2, none⟩ = some (.string (⟨#[]⟩ : ByteArray)) := (blk_cell BK102.out 2).trans rfl; have hfz8_0 := blk_frozen BK102.out 0; have hfz8_1 := blk_frozen BK102.out 1; have hfz8_2 := blk_frozen BK102.out 2) | ((with_reducible refine gate_callee (f := 82) rfl ?_); refine goesL_ (some 13) rfl rfl Tryd.func82 (by kernel_rfl) rfl #[.agg #[.int .i64 ((rd_T26 l0 x8_1).f0), .int .i64 ((rd_T26 l0 x8_1).f1), .string ((rd_T26 l0 x8_1).f2)]] rfl (by (try simp only [List.map_toArray, List.map_cons, List.map_nil]); first | done | rfl | (simp only [List.length_drop, List.length_take]; rfl)) ?_; (with_reducible refine (span_May.calls k1 ((rd_T26 l0 x8_1).f0) ((rd_T26 l0 x8_1).f1) ((rd_T26 l0 x8_1).f2) t103 _ ?side1 A5.out).mono ?_); (case side1 => first | (with_reducible exact HG.out) | exact Glob.below HG.out (by repeat (first | (with_reducible first | exact HB.out | apply below_alloc | apply pw_below_drewN | apply below_drew1 | refine below_set ?_ GE102.out) | exact HB.out)) | exact Glob.drawn HG.out (by repeat (first | exact Drawn0.refl _ | apply Drawn0.step))); rintro e w9 ⟨rfl, hb⟩; refine ⟨_, rfl, ?_⟩; have n0_ := Am (blk_below (g := gb102) (o := .cells #[.int .i64 ((rd_T26 l0 x8_1).f0), .int .i64 ((rd_T26 l0 x8_1).f1), .string ((rd_T26 l0 x8_1).f2)] 26 (0, 0)) (by (with_reducible repeat (first | refine blk_drewN ?_ _ | refine blk_drew ?_ | refine blk_alloc ?_ _)); refine blk_put (cs := #[.int .i64 ((rd_T26 l0 x8_1).f0), .int .i64 ((rd_T26 l0 x8_1).f1), .string (⟨#[]⟩ : ByteArray)]) ?_ 2 _ rfl; (with_reducible repeat (first | refine blk_drewN ?_ _ | refine blk_drew ?_ | refine blk_alloc ?_ _)); refine blk_put (cs := #[.int .i64 ((rd_T26 l0 x8_1).f0), .int .i64 0, .string (⟨#[]⟩ : ByteArray)]) ?_ 1 _ rfl; (with_reducible repeat (first | refine blk_drewN ?_ _ | refine blk_drew ?_ | refine blk_alloc ?_ _)); refine blk_put (cs := #[.int .i64 0, .int .i64 0, .string (⟨#[]⟩ : ByteArray)]) ?_ 0 _ rfl; (with_reducible repeat (first | refine blk_drewN ?_ _ | refine blk_drew ?_ | refine blk_alloc ?_ _)); exact BK102.out) hb); have n1_ := Am (below_step (by repeat (first | (with_reducible first | exact HB.out | apply below_alloc | apply pw_below_drewN | apply below_drew1 | refine below_set ?_ GE102.out) | exact HB.out)) hb); clear BK102; clear HB; have BK102 := n0_; have HB := n1_; clear n0_ n1_; (try clear hb)))
       go_roundg k1
       case measure => have := HK1.out; omega
       case rel => exact ⟨(wrap64 (x8_1 + 1)), (by first | rfl | (simp; done) | (simp [*]; done)), H', ⟨by have := HK1.out; omega⟩, ⟨by repeat (first | (with_reducible first | exact HB.out | apply below_alloc | apply pw_below_drewN | apply below_drew1 | refine below_set ?_ GE102.out) | exact HB.out)⟩⟩
      ·rw [if_neg c6] at H;have c6b0 : (t103 == 0) = false := beq_eq_false_iff_ne.mpr c6
       have c6b1 : (t103 != 0) = true := bne_iff_ne.mpr c6
       obtain rfl := Option.some.inj H;have p101 : 0 ≤ (x8_1 : Int) := of_decide_eq_true (by first | (with_reducible assumption) | assumption)
       have q101 : x8_1 < (l0.length : Int) := of_decide_eq_true (by first | (with_reducible assumption) | assumption)
       obtain ⟨ad101, e101, hx101_0, hx101_1, hx101_2⟩ := at_T26 HR0.out x8_1 p101 q101
       cases e101
       replace hx101_0 := (HB.out.cell (World.block_lt_of_cell? w _ hx101_0)).trans hx101_0
       replace hx101_1 := (HB.out.cell (World.block_lt_of_cell? w _ hx101_1)).trans hx101_1
       replace hx101_2 := (HB.out.cell (World.block_lt_of_cell? w _ hx101_2)).trans hx101_2
       replace p101 := eq_true p101;replace q101 := eq_true q101;go_wp2_with (first | ((with_reducible refine gate_dst (N := 4) rfl ?_); refine box_event ?hg (N := 4) ?hd (cs := #[.int .i64 0, .int .i64 0, .string (⟨#[]⟩ : ByteArray)]) (t := 26) ?hr ?_; (case hd => rfl); (case hg => rfl); (case hr => first | (go_simp; done) | (go_simp; rfl)); intro gb102 hg w10 hbox hb; have n0_ := Am (below_step (by repeat (first | (with_reducible first | exact HB.out | apply below_alloc | apply pw_below_drewN | apply below_drew1) | exact HB.out)) hb); have n1_ := Am (hbox); have n2_ := Am ((by rw [hg]; exact (below_size (by repeat (first | (with_reducible first | exact HB.out | apply below_alloc | apply pw_below_drewN | apply below_drew1) | exact HB.out))) : w.heap.size ≤ gb102)); have n3_ := Am ((by rw [hg]; exact (below_size (by repeat (first | (with_reducible first | exact HB.out | apply below_alloc | apply pw_below_drewN | apply below_drew1) | exact HB.out))) : w.heap.size ≤ gb102)); clear HB; have HB := n0_; have BK102 := n1_; have GW102 := n2_; have GE102 := n3_; clear n0_ n1_ n2_ n3_; clear hb hbox hg; have hcz11_0 : w10.cell? ⟨gb102, 0, none⟩ = some (.int .i64 0) := (blk_cell BK102.out 0).trans rfl; have hcz11_1 : w10.cell? ⟨gb102, 1, none⟩ = some (.int .i64 0) := (blk_cell BK102.out 1).trans rfl; have hcz11_2 : w10.cell? ⟨gb102, 2, none⟩ = some (.string (⟨#[]⟩ : ByteArray)) := (blk_cell BK102.out 2).trans rfl; have hfz11_0 := blk_frozen BK102.out 0; have hfz11_1 := blk_frozen BK102.out 1; have hfz11_2 := blk_frozen BK102.out 2) | ((with_reducible refine gate_callee (f := 82) rfl ?_); refine goesL_ (some 13) rfl rfl Tryd.func82 (by kernel_rfl) rfl #[.agg #[.int .i64 ((rd_T26 l0 x8_1).f0), .int .i64 ((rd_T26 l0 x8_1).f1), .string ((rd_T26 l0 x8_1).f2)]] rfl (by (try simp only [List.map_toArray, List.map_cons, List.map_nil]); first | done | rfl | (simp only [List.length_drop, List.length_take]; rfl)) ?_; (with_reducible refine (span_May.calls k1 ((rd_T26 l0 x8_1).f0) ((rd_T26 l0 x8_1).f1) ((rd_T26 l0 x8_1).f2) t103 _ ?side1 A5.out).mono ?_); (case side1 => first | (with_reducible exact HG.out) | exact Glob.below HG.out (by repeat (first | (with_reducible first | exact HB.out | apply below_alloc | apply pw_below_drewN | apply below_drew1 | refine below_set ?_ GE102.out) | exact HB.out)) | exact Glob.drawn HG.out (by repeat (first | exact Drawn0.refl _ | apply Drawn0.step))); rintro e w12 ⟨rfl, hb⟩; refine ⟨_, rfl, ?_⟩; have n0_ := Am (blk_below (g := gb102) (o := .cells #[.int .i64 ((rd_T26 l0 x8_1).f0), .int .i64 ((rd_T26 l0 x8_1).f1), .string ((rd_T26 l0 x8_1).f2)] 26 (0, 0)) (by (with_reducible repeat (first | refine blk_drewN ?_ _ | refine blk_drew ?_ | refine blk_alloc ?_ _)); refine blk_put (cs := #[.int .i64 ((rd_T26 l0 x8_1).f0), .int .i64 ((rd_T26 l0 x8_1).f1), .string (⟨#[]⟩ : ByteArray)]) ?_ 2 _ rfl; (with_reducible repeat (first | refine blk_drewN ?_ _ | refine blk_drew ?_ | refine blk_alloc ?_ _)); refine blk_put (cs := #[.int .i64 ((rd_T26 l0 x8_1).f0), .int .i64 0, .string (⟨#[]⟩ : ByteArray)]) ?_ 1 _ rfl; (with_reducible repeat (first | refine blk_drewN ?_ _ | refine blk_drew ?_ | refine blk_alloc ?_ _)); refine blk_put (cs := #[.int .i64 0, .int .i64 0, .string (⟨#[]⟩ : ByteArray)]) ?_ 0 _ rfl; (with_reducible repeat (first | refine blk_drewN ?_ _ | refine blk_drew ?_ | refine blk_alloc ?_ _)); exact BK102.out) hb); have n1_ := Am (below_step (by repeat (first | (with_reducible first | exact HB.out | apply below_alloc | apply pw_below_drewN | apply below_drew1 | refine below_set ?_ GE102.out) | exact HB.out)) hb); clear BK102; clear HB; have BK102 := n0_; have HB := n1_; clear n0_ n1_; (try clear hb)))
       go_ret
       exact ⟨by first | rfl | (simp [errW_none, errW_some] <;> rfl) | (simp [*, errW_none, errW_some] <;> rfl), by repeat (first | (with_reducible first | exact HB.out | apply below_alloc | apply pw_below_drewN | apply below_drew1 | refine below_set ?_ GE102.out) | exact HB.out)⟩
     ·rw [if_neg c4] at H;exact absurd H (by simp)
    ·rw [if_neg c3] at H;exact absurd H (by simp)
   ·rw [if_neg c2] at H;have c2b0 : decide (x8_1 < (l0.length : Int)) = false := decide_eq_false c2
    clear c2;replace H := Option.bind_eq_some_iff.mp H;obtain ⟨t104, A130, H⟩ := H;replace H : (if t104 > 1048576 then (some 4) else (some 0)) = some r := H
    have A13 := Am A130;clear A130;by_cases c14 : t104 > 1048576
    ·rw [if_pos c14] at H;have c14b0 : decide (1048576 < t104) = true := decide_eq_true c14
     clear c14;obtain rfl := Option.some.inj H;go_wp2_with (first | ((with_reducible refine gate_callee (f := 45) rfl ?_); refine goesL_ (some 19) rfl rfl Tryd.func45 (by kernel_rfl) rfl #[.slice A0 l0.length c0] rfl (by (try simp only [List.map_toArray, List.map_cons, List.map_nil]); first | done | rfl | (simp only [List.length_drop, List.length_take]; rfl)) ?_; (with_reducible refine (op_In.calls k1 _ _ l0 t104 _ ?side1 ?side2 ?side3 A13.out).mono ?_); (case side1 => first | (with_reducible exact HG.out) | exact Glob.below HG.out (by repeat (first | (with_reducible first | exact HB.out | apply below_alloc | apply pw_below_drewN | apply below_drew1) | exact HB.out)) | exact Glob.drawn HG.out (by repeat (first | exact Drawn0.refl _ | apply Drawn0.step))); (case side2 => repeat (first | exact (C_below HR0.out HB.out) | (with_reducible refine C_alloc ?_ _) | (with_reducible refine C_drewN ?_ _) | (with_reducible refine C_drew ?_))); (case side3 => exact HC0.out); rintro e w15 ⟨rfl, hb⟩; refine ⟨_, rfl, ?_⟩; have n0_ := Am (below_step (by repeat (first | (with_reducible first | exact HB.out | apply below_alloc | apply pw_below_drewN | apply below_drew1) | exact HB.out)) hb); clear HB; have HB := n0_; clear n0_; (try clear hb)))
     go_ret
     exact ⟨by first | rfl | (simp [errW_none, errW_some] <;> rfl) | (simp [*, errW_none, errW_some] <;> rfl), by repeat (first | (with_reducible first | exact HB.out | apply below_alloc | apply pw_below_drewN | apply below_drew1) | exact HB.out)⟩
    ·rw [if_neg c14] at H;have c14b0 : decide (1048576 < t104) = false := decide_eq_false c14
     clear c14;obtain rfl := Option.some.inj H;go_wp2_with (first | ((with_reducible refine gate_callee (f := 45) rfl ?_); refine goesL_ (some 19) rfl rfl Tryd.func45 (by kernel_rfl) rfl #[.slice A0 l0.length c0] rfl (by (try simp only [List.map_toArray, List.map_cons, List.map_nil]); first | done | rfl | (simp only [List.length_drop, List.length_take]; rfl)) ?_; (with_reducible refine (op_In.calls k1 _ _ l0 t104 _ ?side1 ?side2 ?side3 A13.out).mono ?_); (case side1 => first | (with_reducible exact HG.out) | exact Glob.below HG.out (by repeat (first | (with_reducible first | exact HB.out | apply below_alloc | apply pw_below_drewN | apply below_drew1) | exact HB.out)) | exact Glob.drawn HG.out (by repeat (first | exact Drawn0.refl _ | apply Drawn0.step))); (case side2 => repeat (first | exact (C_below HR0.out HB.out) | (with_reducible refine C_alloc ?_ _) | (with_reducible refine C_drewN ?_ _) | (with_reducible refine C_drew ?_))); (case side3 => exact HC0.out); rintro e w16 ⟨rfl, hb⟩; refine ⟨_, rfl, ?_⟩; have n0_ := Am (below_step (by repeat (first | (with_reducible first | exact HB.out | apply below_alloc | apply pw_below_drewN | apply below_drew1) | exact HB.out)) hb); clear HB; have HB := n0_; clear n0_; (try clear hb)))
     go_ret
     exact ⟨by first | rfl | (simp [errW_none, errW_some] <;> rfl) | (simp [*, errW_none, errW_some] <;> rfl), by repeat (first | (with_reducible first | exact HB.out | apply below_alloc | apply pw_below_drewN | apply below_drew1) | exact HB.out)⟩
end Go.Proofs.YtkefbljogjcodaaDoor.F
end
section
namespace Go.Proofs.YtkefbljogjcodaaDoor.F
open Go.RowKit Go.Proofs.YtkefbljogjcodaaDoorW.PrintWords Go.Proofs.YtkefbljogjcodaaDoorW.PrintLast Go.Proofs.YtkefbljogjcodaaDoorW.PrintMore
set_option linter.unusedVariables false
set_option linter.unusedSimpArgs false
def points_Count.f (a0 : ByteArray) : Option Int := if a0.size ≤ 9223372036854775807 then some (if Lib.validD a0.data.toList = true then (Lib.runeCount a0 : Int) else -1) else none
theorem valid_some {a0 : ByteArray} {b : Bool} (hs : a0.size ≤ 9223372036854775807) (h : Lib.validD a0.data.toList = b) : points_Valid.f a0 = some b := by
  unfold points_Valid.f utf8_ValidString.f
  rw [if_pos (by omega), h]
  rfl
set_option maxHeartbeats 4000000 in
theorem points_Count.calls (a0 : ByteArray) (r : Int) (w : World) (hG : Glob w) (h : points_Count.f a0 = some r) :
    Calls Tryd.prog 17 #[.string a0] w fun e w' => e = .returned (.int .i64 r) ∧ Below w.heap.size w w' := by
  have HG := Aside0.mk hG
  clear hG
  unfold points_Count.f at h
  split at h
  · next hs =>
    obtain rfl := Option.some.inj h
    clear h
    have HS := Aside0.mk hs
    cases hv : Lib.validD a0.data.toList with
    | false =>
      have HV := Aside0.mk (valid_some hs hv)
      clear hv hs
      go_enter Tryd.func17, Tryd.ntmps17
      go_wp2_with (go_at_call 55; (with_reducible refine (points_Valid.calls _ _ _ HG.out HV.out).mono ?_); rintro e w' ⟨rfl, hb⟩; have HB := Aside0.mk hb; clear hb)
      go_ret
      exact ⟨rfl, HB.out⟩
    | true =>
      have HV := Aside0.mk (valid_some hs hv)
      clear hv hs
      go_enter Tryd.func17, Tryd.ntmps17
      go_wp2_with (go_at_call 55; (with_reducible refine (points_Valid.calls _ _ _ HG.out HV.out).mono ?_); rintro e w' ⟨rfl, hb⟩; have HB := Aside0.mk hb; clear hb)
      obtain ⟨w1, rfl⟩ : ∃ w1 : World, w1 = w' := ⟨_, rfl⟩
      go_loopw [3] (fun n w' => ∃ (pos b acc : Nat), w' = w1.iter a0 pos ∧ n = .int .i64 acc ∧ acc + Lib.runeCountFrom a0 b pos = Lib.runeCount a0 ∧ a0.size ≤ pos + b ∧ acc ≤ pos) (fun _ w' => a0.size - w'.iterPos w1.heap.size)
      case atStart => exact ⟨0, a0.size, 0, rfl, rfl, by simp [Lib.runeCount], by omega, Nat.le_refl _⟩
      case round =>
        obtain ⟨pos, b, acc, rfl, rfl, hc, hb, ha⟩ := hrel
        have hs := HS.out
        by_cases hp : pos < a0.size
        · have hnx : ∀ ty, (Instr.next (.pointer (some ⟨w1.heap.size, 0, none⟩)) true ty).run Tryd.prog (w1.iter a0 pos) = _ := fun ty => run_next_any w1 a0 pos ty hp
          have hwd := Lib.decode_width_pos a0 pos hp
          go_wp2
          go_roundw
          case rel =>
            cases b with
            | zero => omega
            | succ b =>
              refine ⟨pos + (Utf8.decode a0 pos).2, b, acc + 1, rfl, by go_num, ?_, by omega, by omega⟩
              rw [← hc]
              simp [Lib.runeCountFrom, hp]
              omega
          case measure =>
            simp
            omega
        · have hnx : ∀ ty, (Instr.next (.pointer (some ⟨w1.heap.size, 0, none⟩)) true ty).run Tryd.prog (w1.iter a0 pos) = _ := fun ty => run_next_end w1 a0 pos ty hp
          go_wp2
          go_ret
          rw [Lib.runeCountFrom_end a0 b pos hp, Nat.add_zero] at hc
          subst hc
          refine ⟨rfl, ?_⟩
          exact below_alloc HB.out _
  · cases h
end Go.Proofs.YtkefbljogjcodaaDoor.F
end
section
namespace Go.Proofs.YtkefbljogjcodaaDoor.F
open Go.RowKit Go.Proofs.YtkefbljogjcodaaDoorW.PrintWords Go.Proofs.YtkefbljogjcodaaDoorW.PrintLast Go.Proofs.YtkefbljogjcodaaDoorW.PrintMore
attribute [local go_sem] max2_int min2_int max_two min_two max_three min_three max_four min_four cell_setCell_isSome
set_option linter.unusedVariables false
set_option linter.unusedSimpArgs false
open Kd
def span_Out.f (a0_0 : Int) (a0_1 : Int) (a0_2 : ByteArray) : Option (Int) := (span_of.f a0_0 a0_1 a0_2).bind fun bt102 => (if bt102.2.1 = true then (some a0_1) else (if a0_0 = 2 then ((points_Count.f a0_2).bind fun t106 => (some (mx t106 0))) else (some 0)))
set_option maxHeartbeats 8000000 in
set_option maxRecDepth 100000 in
theorem span_Out.calls (a0_0 : Int) (a0_1 : Int) (a0_2 : ByteArray) (r : Int) (w : World) (hG : Glob w) (h : span_Out.f a0_0 a0_1 a0_2 = some r) :
  Calls Tryd.prog 49 #[.agg #[.int .i64 a0_0, .int .i64 a0_1, .string a0_2]] w fun e w' => e = .returned (.int .i64 r) ∧ Below w.heap.size w w' := by
 have hu26 := Tryd.underlying26
 have hu102 := Tryd.underlying102
 have HG := Am hG;clear hG;have HB := Am (Below.refl w.heap.size w)
 have H : ((span_of.f a0_0 a0_1 a0_2).bind fun bt102 => (if bt102.2.1 = true then (some a0_1) else (if a0_0 = 2 then ((points_Count.f a0_2).bind fun t106 => (some (mx t106 0))) else (some 0)))) = some r := h
 clear h;replace H := Option.bind_eq_some_iff.mp H;obtain ⟨⟨t102, t103, t104⟩, A20, H⟩ := H;have A2 := Am A20;clear A20;by_cases c3 : t103 = true
 ·subst c3
  have H1 : (some a0_1) = some r := by rw [if_pos rfl] at H; exact H
  clear H;have H := H1
  clear H1;obtain rfl := Option.some.inj H;go_enter Tryd.func49, Tryd.ntmps49
  go_wp2_with (first | ((with_reducible refine gate_dst (N := 1) rfl ?_); refine box_event ?hg (N := 1) ?hd (cs := #[.int .i64 a0_0, .int .i64 a0_1, .string a0_2]) (t := 26) ?hr ?_; (case hd => rfl); (case hg => rfl); (case hr => first | (go_simp; done) | (go_simp; rfl)); intro gb101 hg w4 hbox hb; have n0_ := Am (below_step (by repeat (first | (with_reducible first | exact HB.out | apply below_alloc | apply pw_below_drewN | apply below_drew1) | exact HB.out)) hb); have n1_ := Am (hbox); have n2_ := Am ((by rw [hg]; exact (below_size (by repeat (first | (with_reducible first | exact HB.out | apply below_alloc | apply pw_below_drewN | apply below_drew1) | exact HB.out))) : w.heap.size ≤ gb101)); have n3_ := Am ((by rw [hg]; exact (below_size (by repeat (first | (with_reducible first | exact HB.out | apply below_alloc | apply pw_below_drewN | apply below_drew1) | exact HB.out))) : w.heap.size ≤ gb101)); clear HB; have HB := n0_; have BK101 := n1_; have GW101 := n2_; have GE101 := n3_; clear n0_ n1_ n2_ n3_; clear hb hbox hg; have hcz5_0 : w4.cell? ⟨gb101, 0, none⟩ = some (.int .i64 a0_0) := (blk_cell BK101.out 0).trans rfl; have hcz5_1 : w4.cell? ⟨gb101, 1, none⟩ = some (.int .i64 a0_1) := (blk_cell BK101.out 1).trans rfl; have hcz5_2 : w4.cell? ⟨gb101, 2, none⟩ = some (.string a0_2) := (blk_cell BK101.out 2).trans rfl; have hfz5_0 := blk_frozen BK101.out 0; have hfz5_1 := blk_frozen BK101.out 1; have hfz5_2 := blk_frozen BK101.out 2) | ((with_reducible refine gate_callee (f := 83) rfl ?_); refine goesL_ (some 7) rfl rfl Tryd.func83 (by kernel_rfl) rfl #[.agg #[.int .i64 a0_0, .int .i64 a0_1, .string a0_2]] rfl (by (try simp only [List.map_toArray, List.map_cons, List.map_nil]); first | done | rfl | (simp only [List.length_drop, List.length_take]; rfl)) ?_; (with_reducible refine (span_of.calls a0_0 a0_1 a0_2 t102 true t104 _ ?side1 A2.out).mono ?_); (case side1 => first | (with_reducible exact HG.out) | exact Glob.below HG.out (by repeat (first | (with_reducible first | exact HB.out | apply below_alloc | apply pw_below_drewN | apply below_drew1 | refine below_set ?_ GE101.out) | exact HB.out)) | exact Glob.drawn HG.out (by repeat (first | exact Drawn0.refl _ | apply Drawn0.step))); rintro e w6 ⟨rfl, hb⟩; refine ⟨_, rfl, ?_⟩; have n0_ := Am (blk_below (g := gb101) (o := .cells #[.int .i64 a0_0, .int .i64 a0_1, .string a0_2] 26 (0, 0)) (by (with_reducible repeat (first | refine blk_drewN ?_ _ | refine blk_drew ?_ | refine blk_alloc ?_ _)); exact BK101.out) hb); have n1_ := Am (below_step (by repeat (first | (with_reducible first | exact HB.out | apply below_alloc | apply pw_below_drewN | apply below_drew1 | refine below_set ?_ GE101.out) | exact HB.out)) hb); clear BK101; clear HB; have BK101 := n0_; have HB := n1_; clear n0_ n1_; (try clear hb)) | ((with_reducible refine gate_dst (N := 3) rfl ?_); refine box_event ?hg (N := 3) ?hd (cs := #[.bool false, .bool false]) (t := 102) ?hr ?_; (case hd => rfl); (case hg => rfl); (case hr => first | (go_simp; done) | (go_simp; rfl)); intro gb105 hg w7 hbox hb; have n0_ := Am (blk_below (g := gb101) (o := .cells #[.int .i64 a0_0, .int .i64 a0_1, .string a0_2] 26 (0, 0)) (by (with_reducible repeat (first | refine blk_drewN ?_ _ | refine blk_drew ?_ | refine blk_alloc ?_ _)); exact BK101.out) hb); have n1_ := Am (below_step (by repeat (first | (with_reducible first | exact HB.out | apply below_alloc | apply pw_below_drewN | apply below_drew1 | refine below_set ?_ GE101.out) | exact HB.out)) hb); have n2_ := Am (hbox); have n3_ := Am ((by rw [hg]; exact (below_size (by repeat (first | (with_reducible first | exact HB.out | apply below_alloc | apply pw_below_drewN | apply below_drew1 | refine below_set ?_ GE101.out) | exact HB.out))) : w.heap.size ≤ gb105)); have n4_ := Am ((by rw [hg]; exact (below_size (by repeat (first | (with_reducible first | exact HB.out | apply below_alloc | apply pw_below_drewN | apply below_drew1 | refine below_set ?_ GE101.out) | exact HB.out))) : w.heap.size ≤ gb105)); have n5_ := Am ((by rw [hg]; exact Nat.ne_of_lt (blk_lt (g := gb101) (o := .cells #[.int .i64 a0_0, .int .i64 a0_1, .string a0_2] 26 (0, 0)) (by (with_reducible repeat (first | refine blk_drewN ?_ _ | refine blk_drew ?_ | refine blk_alloc ?_ _)); exact BK101.out)) : gb101 ≠ gb105)); have n6_ := Am ((by rw [hg]; exact Nat.ne_of_gt (blk_lt (g := gb101) (o := .cells #[.int .i64 a0_0, .int .i64 a0_1, .string a0_2] 26 (0, 0)) (by (with_reducible repeat (first | refine blk_drewN ?_ _ | refine blk_drew ?_ | refine blk_alloc ?_ _)); exact BK101.out)) : gb105 ≠ gb101)); clear BK101; clear HB; have BK101 := n0_; have HB := n1_; have BK105 := n2_; have GW105 := n3_; have GE105 := n4_; have NB101_105 := n5_; have NB105_101 := n6_; clear n0_ n1_ n2_ n3_ n4_ n5_ n6_; clear hb hbox hg; have hnb8 := NB105_101.out; have hnc8 := NB101_105.out; have hcz9_0 : w7.cell? ⟨gb105, 0, none⟩ = some (.bool false) := (blk_cell BK105.out 0).trans rfl; have hcz9_1 : w7.cell? ⟨gb105, 1, none⟩ = some (.bool false) := (blk_cell BK105.out 1).trans rfl; have hfz9_0 := blk_frozen BK105.out 0; have hfz9_1 := blk_frozen BK105.out 1; have hcz10_0 : w7.cell? ⟨gb101, 0, none⟩ = some (.int .i64 a0_0) := (blk_cell BK101.out 0).trans rfl; have hcz10_1 : w7.cell? ⟨gb101, 1, none⟩ = some (.int .i64 a0_1) := (blk_cell BK101.out 1).trans rfl; have hcz10_2 : w7.cell? ⟨gb101, 2, none⟩ = some (.string a0_2) := (blk_cell BK101.out 2).trans rfl; have hfz10_0 := blk_frozen BK101.out 0; have hfz10_1 := blk_frozen BK101.out 1; have hfz10_2 := blk_frozen BK101.out 2))
  go_ret
  exact ⟨by first | rfl | (simp [errW_none, errW_some] <;> rfl) | (simp [*, errW_none, errW_some] <;> rfl), by repeat (first | (with_reducible first | exact HB.out | apply below_alloc | apply pw_below_drewN | apply below_drew1 | refine below_set ?_ GE101.out | refine below_set ?_ GE105.out) | exact HB.out)⟩
 ·replace c3 := Bool.eq_false_iff.mpr c3
  subst c3
  have H1 : (if a0_0 = 2 then ((points_Count.f a0_2).bind fun t106 => (some (mx t106 0))) else (some 0)) = some r := by rw [if_neg (show ¬ (false = true) by decide)] at H; exact H
  clear H;have H := H1
  clear H1;by_cases c11 : a0_0 = 2
  ·rw [if_pos c11] at H;have c11b0 : (a0_0 == 2) = true := beq_iff_eq.mpr c11
   have c11b1 : (a0_0 != 2) = false := bne_eq_false_iff_eq.mpr c11
   clear c11;replace H := Option.bind_eq_some_iff.mp H;obtain ⟨t106, A120, H⟩ := H;replace H : (some (mx t106 0)) = some r := H
   have A12 := Am A120;clear A120;obtain ⟨ji13, hji13⟩ : ∃ j_ : Int, (mx t106 0) = j_ := ⟨_, rfl⟩
   replace H : (some ji13) = some r := by first | (rw [hji13] at H; exact H) | (simp only [hji13] at H ⊢; exact H)
   (try rw [hji13] at A2)
   (try rw [hji13] at A12)
   (try (have hji13l : 0 ≤ ji13 := by (rw [← hji13]; unfold mx; (repeat' split) <;> omega)))
   (try (have hji13m : 0 ≤ ji13 := by omega))
   have hji13_ : (if t106 < 0 then 0 else t106) = ji13 := hji13
   obtain rfl := Option.some.inj H;go_enter Tryd.func49, Tryd.ntmps49
   go_wp2_with (first | ((with_reducible refine gate_dst (N := 1) rfl ?_); refine box_event ?hg (N := 1) ?hd (cs := #[.int .i64 a0_0, .int .i64 a0_1, .string a0_2]) (t := 26) ?hr ?_; (case hd => rfl); (case hg => rfl); (case hr => first | (go_simp; done) | (go_simp; rfl)); intro gb101 hg w14 hbox hb; have n0_ := Am (below_step (by repeat (first | (with_reducible first | exact HB.out | apply below_alloc | apply pw_below_drewN | apply below_drew1) | exact HB.out)) hb); have n1_ := Am (hbox); have n2_ := Am ((by rw [hg]; exact (below_size (by repeat (first | (with_reducible first | exact HB.out | apply below_alloc | apply pw_below_drewN | apply below_drew1) | exact HB.out))) : w.heap.size ≤ gb101)); have n3_ := Am ((by rw [hg]; exact (below_size (by repeat (first | (with_reducible first | exact HB.out | apply below_alloc | apply pw_below_drewN | apply below_drew1) | exact HB.out))) : w.heap.size ≤ gb101)); clear HB; have HB := n0_; have BK101 := n1_; have GW101 := n2_; have GE101 := n3_; clear n0_ n1_ n2_ n3_; clear hb hbox hg; have hcz15_0 : w14.cell? ⟨gb101, 0, none⟩ = some (.int .i64 a0_0) := (blk_cell BK101.out 0).trans rfl; have hcz15_1 : w14.cell? ⟨gb101, 1, none⟩ = some (.int .i64 a0_1) := (blk_cell BK101.out 1).trans rfl; have hcz15_2 : w14.cell? ⟨gb101, 2, none⟩ = some (.string a0_2) := (blk_cell BK101.out 2).trans rfl; have hfz15_0 := blk_frozen BK101.out 0; have hfz15_1 := blk_frozen BK101.out 1; have hfz15_2 := blk_frozen BK101.out 2) | ((with_reducible refine gate_callee (f := 83) rfl ?_); refine goesL_ (some 7) rfl rfl Tryd.func83 (by kernel_rfl) rfl #[.agg #[.int .i64 a0_0, .int .i64 a0_1, .string a0_2]] rfl (by (try simp only [List.map_toArray, List.map_cons, List.map_nil]); first | done | rfl | (simp only [List.length_drop, List.length_take]; rfl)) ?_; (with_reducible refine (span_of.calls a0_0 a0_1 a0_2 t102 false t104 _ ?side1 A2.out).mono ?_); (case side1 => first | (with_reducible exact HG.out) | exact Glob.below HG.out (by repeat (first | (with_reducible first | exact HB.out | apply below_alloc | apply pw_below_drewN | apply below_drew1 | refine below_set ?_ GE101.out) | exact HB.out)) | exact Glob.drawn HG.out (by repeat (first | exact Drawn0.refl _ | apply Drawn0.step))); rintro e w16 ⟨rfl, hb⟩; refine ⟨_, rfl, ?_⟩; have n0_ := Am (blk_below (g := gb101) (o := .cells #[.int .i64 a0_0, .int .i64 a0_1, .string a0_2] 26 (0, 0)) (by (with_reducible repeat (first | refine blk_drewN ?_ _ | refine blk_drew ?_ | refine blk_alloc ?_ _)); exact BK101.out) hb); have n1_ := Am (below_step (by repeat (first | (with_reducible first | exact HB.out | apply below_alloc | apply pw_below_drewN | apply below_drew1 | refine below_set ?_ GE101.out) | exact HB.out)) hb); clear BK101; clear HB; have BK101 := n0_; have HB := n1_; clear n0_ n1_; (try clear hb)) | ((with_reducible refine gate_dst (N := 3) rfl ?_); refine box_event ?hg (N := 3) ?hd (cs := #[.bool false, .bool false]) (t := 102) ?hr ?_; (case hd => rfl); (case hg => rfl); (case hr => first | (go_simp; done) | (go_simp; rfl)); intro gb105 hg w17 hbox hb; have n0_ := Am (blk_below (g := gb101) (o := .cells #[.int .i64 a0_0, .int .i64 a0_1, .string a0_2] 26 (0, 0)) (by (with_reducible repeat (first | refine blk_drewN ?_ _ | refine blk_drew ?_ | refine blk_alloc ?_ _)); exact BK101.out) hb); have n1_ := Am (below_step (by repeat (first | (with_reducible first | exact HB.out | apply below_alloc | apply pw_below_drewN | apply below_drew1 | refine below_set ?_ GE101.out) | exact HB.out)) hb); have n2_ := Am (hbox); have n3_ := Am ((by rw [hg]; exact (below_size (by repeat (first | (with_reducible first | exact HB.out | apply below_alloc | apply pw_below_drewN | apply below_drew1 | refine below_set ?_ GE101.out) | exact HB.out))) : w.heap.size ≤ gb105)); have n4_ := Am ((by rw [hg]; exact (below_size (by repeat (first | (with_reducible first | exact HB.out | apply below_alloc | apply pw_below_drewN | apply below_drew1 | refine below_set ?_ GE101.out) | exact HB.out))) : w.heap.size ≤ gb105)); have n5_ := Am ((by rw [hg]; exact Nat.ne_of_lt (blk_lt (g := gb101) (o := .cells #[.int .i64 a0_0, .int .i64 a0_1, .string a0_2] 26 (0, 0)) (by (with_reducible repeat (first | refine blk_drewN ?_ _ | refine blk_drew ?_ | refine blk_alloc ?_ _)); exact BK101.out)) : gb101 ≠ gb105)); have n6_ := Am ((by rw [hg]; exact Nat.ne_of_gt (blk_lt (g := gb101) (o := .cells #[.int .i64 a0_0, .int .i64 a0_1, .string a0_2] 26 (0, 0)) (by (with_reducible repeat (first | refine blk_drewN ?_ _ | refine blk_drew ?_ | refine blk_alloc ?_ _)); exact BK101.out)) : gb105 ≠ gb101)); clear BK101; clear HB; have BK101 := n0_; have HB := n1_; have BK105 := n2_; have GW105 := n3_; have GE105 := n4_; have NB101_105 := n5_; have NB105_101 := n6_; clear n0_ n1_ n2_ n3_ n4_ n5_ n6_; clear hb hbox hg; have hnb18 := NB105_101.out; have hnc18 := NB101_105.out; have hcz19_0 : w17.cell? ⟨gb105, 0, none⟩ = some (.bool false) := (blk_cell BK105.out 0).trans rfl; have hcz19_1 : w17.cell? ⟨gb105, 1, none⟩ = some (.bool false) := (blk_cell BK105.out 1).trans rfl; have hfz19_0 := blk_frozen BK105.out 0; have hfz19_1 := blk_frozen BK105.out 1; have hcz20_0 : w17.cell? ⟨gb101, 0, none⟩ = some (.int .i64 a0_0) := (blk_cell BK101.out 0).trans rfl; have hcz20_1 : w17.cell? ⟨gb101, 1, none⟩ = some (.int .i64 a0_1) := (blk_cell BK101.out 1).trans rfl; have hcz20_2 : w17.cell? ⟨gb101, 2, none⟩ = some (.string a0_2) := (blk_cell BK101.out 2).trans rfl; have hfz20_0 := blk_frozen BK101.out 0; have hfz20_1 := blk_frozen BK101.out 1; have hfz20_2 := blk_frozen BK101.out 2) | ((with_reducible refine gate_callee (f := 17) rfl ?_); refine goesL_ (some 21) rfl rfl Tryd.func17 (by kernel_rfl) rfl #[.string a0_2] rfl (by (try simp only [List.map_toArray, List.map_cons, List.map_nil]); first | done | rfl | (simp only [List.length_drop, List.length_take]; rfl)) ?_; (with_reducible refine (points_Count.calls a0_2 t106 _ ?side1 A12.out).mono ?_); (case side1 => first | (with_reducible exact HG.out) | exact Glob.below HG.out (by repeat (first | (with_reducible first | exact HB.out | apply below_alloc | apply pw_below_drewN | apply below_drew1 | refine below_set ?_ GE101.out | refine below_set ?_ GE105.out) | exact HB.out)) | exact Glob.drawn HG.out (by repeat (first | exact Drawn0.refl _ | apply Drawn0.step))); rintro e w21 ⟨rfl, hb⟩; refine ⟨_, rfl, ?_⟩; have n0_ := Am (blk_below (g := gb101) (o := .cells #[.int .i64 a0_0, .int .i64 a0_1, .string a0_2] 26 (0, 0)) (by (with_reducible repeat (first | refine blk_drewN ?_ _ | refine blk_drew ?_ | refine blk_alloc ?_ _)); refine blk_far ?_ NB101_105.out _; (with_reducible repeat (first | refine blk_drewN ?_ _ | refine blk_drew ?_ | refine blk_alloc ?_ _)); refine blk_far ?_ NB101_105.out _; (with_reducible repeat (first | refine blk_drewN ?_ _ | refine blk_drew ?_ | refine blk_alloc ?_ _)); exact BK101.out) hb); have n1_ := Am (blk_below (g := gb105) (o := .cells #[.bool t102, .bool false] 102 (0, 0)) (by (with_reducible repeat (first | refine blk_drewN ?_ _ | refine blk_drew ?_ | refine blk_alloc ?_ _)); refine blk_put (cs := #[.bool t102, .bool false]) ?_ 1 _ rfl; (with_reducible repeat (first | refine blk_drewN ?_ _ | refine blk_drew ?_ | refine blk_alloc ?_ _)); refine blk_put (cs := #[.bool false, .bool false]) ?_ 0 _ rfl; (with_reducible repeat (first | refine blk_drewN ?_ _ | refine blk_drew ?_ | refine blk_alloc ?_ _)); exact BK105.out) hb); have n2_ := Am (below_step (by repeat (first | (with_reducible first | exact HB.out | apply below_alloc | apply pw_below_drewN | apply below_drew1 | refine below_set ?_ GE101.out | refine below_set ?_ GE105.out) | exact HB.out)) hb); clear BK101; clear BK105; clear HB; have BK101 := n0_; have BK105 := n1_; have HB := n2_; clear n0_ n1_ n2_; (try clear hb)))
   go_ret
   exact ⟨by first | rfl | (simp [errW_none, errW_some] <;> rfl) | (simp only [← hji13]; first | rfl | (simp [errW_none, errW_some] <;> rfl)) | (simp [*, errW_none, errW_some] <;> rfl), by repeat (first | (with_reducible first | exact HB.out | apply below_alloc | apply pw_below_drewN | apply below_drew1 | refine below_set ?_ GE101.out | refine below_set ?_ GE105.out) | exact HB.out)⟩
  ·rw [if_neg c11] at H;have c11b0 : (a0_0 == 2) = false := beq_eq_false_iff_ne.mpr c11
   have c11b1 : (a0_0 != 2) = true := bne_iff_ne.mpr c11
   obtain rfl := Option.some.inj H;go_enter Tryd.func49, Tryd.ntmps49
   go_wp2_with (first | ((with_reducible refine gate_dst (N := 1) rfl ?_); refine box_event ?hg (N := 1) ?hd (cs := #[.int .i64 a0_0, .int .i64 a0_1, .string a0_2]) (t := 26) ?hr ?_; (case hd => rfl); (case hg => rfl); (case hr => first | (go_simp; done) | (go_simp; rfl)); intro gb101 hg w22 hbox hb; have n0_ := Am (below_step (by repeat (first | (with_reducible first | exact HB.out | apply below_alloc | apply pw_below_drewN | apply below_drew1) | exact HB.out)) hb); have n1_ := Am (hbox); have n2_ := Am ((by rw [hg]; exact (below_size (by repeat (first | (with_reducible first | exact HB.out | apply below_alloc | apply pw_below_drewN | apply below_drew1) | exact HB.out))) : w.heap.size ≤ gb101)); have n3_ := Am ((by rw [hg]; exact (below_size (by repeat (first | (with_reducible first | exact HB.out | apply below_alloc | apply pw_below_drewN | apply below_drew1) | exact HB.out))) : w.heap.size ≤ gb101)); clear HB; have HB := n0_; have BK101 := n1_; have GW101 := n2_; have GE101 := n3_; clear n0_ n1_ n2_ n3_; clear hb hbox hg; have hcz23_0 : w22.cell? ⟨gb101, 0, none⟩ = some (.int .i64 a0_0) := (blk_cell BK101.out 0).trans rfl; have hcz23_1 : w22.cell? ⟨gb101, 1, none⟩ = some (.int .i64 a0_1) := (blk_cell BK101.out 1).trans rfl; have hcz23_2 : w22.cell? ⟨gb101, 2, none⟩ = some (.string a0_2) := (blk_cell BK101.out 2).trans rfl; have hfz23_0 := blk_frozen BK101.out 0; have hfz23_1 := blk_frozen BK101.out 1; have hfz23_2 := blk_frozen BK101.out 2) | ((with_reducible refine gate_callee (f := 83) rfl ?_); refine goesL_ (some 7) rfl rfl Tryd.func83 (by kernel_rfl) rfl #[.agg #[.int .i64 a0_0, .int .i64 a0_1, .string a0_2]] rfl (by (try simp only [List.map_toArray, List.map_cons, List.map_nil]); first | done | rfl | (simp only [List.length_drop, List.length_take]; rfl)) ?_; (with_reducible refine (span_of.calls a0_0 a0_1 a0_2 t102 false t104 _ ?side1 A2.out).mono ?_); (case side1 => first | (with_reducible exact HG.out) | exact Glob.below HG.out (by repeat (first | (with_reducible first | exact HB.out | apply below_alloc | apply pw_below_drewN | apply below_drew1 | refine below_set ?_ GE101.out) | exact HB.out)) | exact Glob.drawn HG.out (by repeat (first | exact Drawn0.refl _ | apply Drawn0.step))); rintro e w24 ⟨rfl, hb⟩; refine ⟨_, rfl, ?_⟩; have n0_ := Am (blk_below (g := gb101) (o := .cells #[.int .i64 a0_0, .int .i64 a0_1, .string a0_2] 26 (0, 0)) (by (with_reducible repeat (first | refine blk_drewN ?_ _ | refine blk_drew ?_ | refine blk_alloc ?_ _)); exact BK101.out) hb); have n1_ := Am (below_step (by repeat (first | (with_reducible first | exact HB.out | apply below_alloc | apply pw_below_drewN | apply below_drew1 | refine below_set ?_ GE101.out) | exact HB.out)) hb); clear BK101; clear HB; have BK101 := n0_; have HB := n1_; clear n0_ n1_; (try clear hb)) | ((with_reducible refine gate_dst (N := 3) rfl ?_); refine box_event ?hg (N := 3) ?hd (cs := #[.bool false, .bool false]) (t := 102) ?hr ?_; (case hd => rfl); (case hg => rfl); (case hr => first | (go_simp; done) | (go_simp; rfl)); intro gb105 hg w25 hbox hb; have n0_ := Am (blk_below (g := gb101) (o := .cells #[.int .i64 a0_0, .int .i64 a0_1, .string a0_2] 26 (0, 0)) (by (with_reducible repeat (first | refine blk_drewN ?_ _ | refine blk_drew ?_ | refine blk_alloc ?_ _)); exact BK101.out) hb); have n1_ := Am (below_step (by repeat (first | (with_reducible first | exact HB.out | apply below_alloc | apply pw_below_drewN | apply below_drew1 | refine below_set ?_ GE101.out) | exact HB.out)) hb); have n2_ := Am (hbox); have n3_ := Am ((by rw [hg]; exact (below_size (by repeat (first | (with_reducible first | exact HB.out | apply below_alloc | apply pw_below_drewN | apply below_drew1 | refine below_set ?_ GE101.out) | exact HB.out))) : w.heap.size ≤ gb105)); have n4_ := Am ((by rw [hg]; exact (below_size (by repeat (first | (with_reducible first | exact HB.out | apply below_alloc | apply pw_below_drewN | apply below_drew1 | refine below_set ?_ GE101.out) | exact HB.out))) : w.heap.size ≤ gb105)); have n5_ := Am ((by rw [hg]; exact Nat.ne_of_lt (blk_lt (g := gb101) (o := .cells #[.int .i64 a0_0, .int .i64 a0_1, .string a0_2] 26 (0, 0)) (by (with_reducible repeat (first | refine blk_drewN ?_ _ | refine blk_drew ?_ | refine blk_alloc ?_ _)); exact BK101.out)) : gb101 ≠ gb105)); have n6_ := Am ((by rw [hg]; exact Nat.ne_of_gt (blk_lt (g := gb101) (o := .cells #[.int .i64 a0_0, .int .i64 a0_1, .string a0_2] 26 (0, 0)) (by (with_reducible repeat (first | refine blk_drewN ?_ _ | refine blk_drew ?_ | refine blk_alloc ?_ _)); exact BK101.out)) : gb105 ≠ gb101)); clear BK101; clear HB; have BK101 := n0_; have HB := n1_; have BK105 := n2_; have GW105 := n3_; have GE105 := n4_; have NB101_105 := n5_; have NB105_101 := n6_; clear n0_ n1_ n2_ n3_ n4_ n5_ n6_; clear hb hbox hg; have hnb26 := NB105_101.out; have hnc26 := NB101_105.out; have hcz27_0 : w25.cell? ⟨gb105, 0, none⟩ = some (.bool false) := (blk_cell BK105.out 0).trans rfl; have hcz27_1 : w25.cell? ⟨gb105, 1, none⟩ = some (.bool false) := (blk_cell BK105.out 1).trans rfl; have hfz27_0 := blk_frozen BK105.out 0; have hfz27_1 := blk_frozen BK105.out 1; have hcz28_0 : w25.cell? ⟨gb101, 0, none⟩ = some (.int .i64 a0_0) := (blk_cell BK101.out 0).trans rfl; have hcz28_1 : w25.cell? ⟨gb101, 1, none⟩ = some (.int .i64 a0_1) := (blk_cell BK101.out 1).trans rfl; have hcz28_2 : w25.cell? ⟨gb101, 2, none⟩ = some (.string a0_2) := (blk_cell BK101.out 2).trans rfl; have hfz28_0 := blk_frozen BK101.out 0; have hfz28_1 := blk_frozen BK101.out 1; have hfz28_2 := blk_frozen BK101.out 2))
   go_ret
   exact ⟨by first | rfl | (simp [errW_none, errW_some] <;> rfl) | (simp [*, errW_none, errW_some] <;> rfl), by repeat (first | (with_reducible first | exact HB.out | apply below_alloc | apply pw_below_drewN | apply below_drew1 | refine below_set ?_ GE101.out | refine below_set ?_ GE105.out) | exact HB.out)⟩
end Go.Proofs.YtkefbljogjcodaaDoor.F
end
section
namespace Go.Proofs.YtkefbljogjcodaaDoor.F
open Go.RowKit Go.Proofs.YtkefbljogjcodaaDoorW.PrintWords Go.Proofs.YtkefbljogjcodaaDoorW.PrintLast Go.Proofs.YtkefbljogjcodaaDoorW.PrintMore
set_option linter.unusedVariables false
set_option linter.unusedSimpArgs false
section
variable {P : Program} {ops : Array Oper} {rest : List Oper} {o : Oper} {a : Act} {Q : Exit → Act → World → Prop} {W : World}
def ConvCalls (P : Program) (src dst : TypeId) (v : Value) (w : World) (post : Ending → World → Prop) : Prop := ∃ u w', (convert src dst v).run P w = .ok u w' ∧ post (.returned u) w'
theorem ConvCalls.mono {src dst : TypeId} {v : Value} {w : World} {p q : Ending → World → Prop} (h : ConvCalls P src dst v w p) (hpq : ∀ e w', p e w' → q e w') : ConvCalls P src dst v w q := by
  obtain ⟨u, w', h1, h2⟩ := h
  exact ⟨u, w', h1, hpq _ _ h2⟩
end
end Go.Proofs.YtkefbljogjcodaaDoor.F
end
section
namespace Go.Proofs.YtkefbljogjcodaaDoor.F
open Go.RowKit Go.Proofs.YtkefbljogjcodaaDoorW.PrintWords Go.Proofs.YtkefbljogjcodaaDoorW.PrintLast Go.Proofs.YtkefbljogjcodaaDoorW.PrintMore
set_option linter.unusedVariables false
set_option linter.unusedSimpArgs false
def RowAt (W : World) (A : Option Addr) (gl : Nat) (l : List S26) : Prop :=
  0 < l.length → ∃ (off : Nat) (cur : Array Value), A = some ⟨gl, off, none⟩ ∧ W.heap[gl]? = some (.cells cur 26 (0, 0)) ∧
    ∀ (j : Nat) (s : S26), l[j]? = some s → cur[off + 3 * j]? = some (.int .i64 s.f0) ∧ cur[off + 3 * j + 1]? = some (.int .i64 s.f1) ∧ cur[off + 3 * j + 2]? = some (.string s.f2)
def TxtAt (W : World) (B : Option Addr) (gt : Nat) (t : List Int) : Prop :=
  0 < t.length → ∃ (off : Nat) (cur : Array Value), B = some ⟨gt, off, none⟩ ∧ W.heap[gt]? = some (.cells cur 21 (0, 0)) ∧ ∀ (j : Nat) (r : Int), t[j]? = some r → cur[off + j]? = some (.int .i32 r)
structure Rd (W : World) (n₀ g gl gt : Nat) (A : Option Addr) (c : Nat) (B : Option Addr) (cB : Nat) (l : List S26) (t : List Int) : Prop where
  blk : W.heap[g]? = some (.cells #[.slice A l.length c, .slice B t.length cB] 109 (0, 0))
  lc : l.length ≤ c
  tc : t.length ≤ cB
  lm : c ≤ 9223372036854775807
  tm : cB ≤ 9223372036854775807
  row : RowAt W A gl l
  txt : TxtAt W B gt t
  hg : n₀ ≤ g
  hl : 0 < l.length → n₀ ≤ gl
theorem Rd.keep {W W' : World} {n₀ g gl gt c cB : Nat} {A B : Option Addr} {l : List S26} {t : List Int} (h : Rd W n₀ g gl gt A c B cB l t) (h0 : W'.heap[g]? = W.heap[g]?) (h1 : 0 < l.length → W'.heap[gl]? = W.heap[gl]?) (h2 : 0 < t.length → W'.heap[gt]? = W.heap[gt]?) : Rd W' n₀ g gl gt A c B cB l t :=
  ⟨h0.trans h.blk, h.lc, h.tc, h.lm, h.tm, fun hp => by obtain ⟨o, cur, e1, e2, e3⟩ := h.row hp; exact ⟨o, cur, e1, (h1 hp).trans e2, e3⟩, fun hp => by obtain ⟨o, cur, e1, e2, e3⟩ := h.txt hp; exact ⟨o, cur, e1, (h2 hp).trans e2, e3⟩, h.hg, h.hl⟩
theorem Rd.lt {W : World} {n₀ g gl gt c cB : Nat} {A B : Option Addr} {l : List S26} {t : List Int} (h : Rd W n₀ g gl gt A c B cB l t) : g < W.heap.size ∧ (0 < l.length → gl < W.heap.size) ∧ (0 < t.length → gt < W.heap.size) :=
  ⟨blk_lt h.blk, fun hp => by obtain ⟨_, _, _, e, _⟩ := h.row hp; exact blk_lt e, fun hp => by obtain ⟨_, _, _, e, _⟩ := h.txt hp; exact blk_lt e⟩
theorem Rd.below {W W' : World} {n₀ g gl gt c cB : Nat} {A B : Option Addr} {l : List S26} {t : List Int} (h : Rd W n₀ g gl gt A c B cB l t) (hb : Below W.heap.size W W') : Rd W' n₀ g gl gt A c B cB l t :=
  h.keep (hb.block _ h.lt.1) (fun hp => hb.block _ (h.lt.2.1 hp)) (fun hp => hb.block _ (h.lt.2.2 hp))
theorem Rd.head {W : World} {n₀ g gl gt c cB : Nat} {A B : Option Addr} {s : S26} {r : List S26} {t : List Int} (h : Rd W n₀ g gl gt A c B cB (s :: r) t) :
    ∃ off : Nat, A = some ⟨gl, off, none⟩ ∧ W.cell? ⟨gl, off, none⟩ = some (.int .i64 s.f0) ∧ W.cell? ⟨gl, off + 1, none⟩ = some (.int .i64 s.f1) ∧ W.cell? ⟨gl, off + 2, none⟩ = some (.string s.f2) ∧ W.frozen? ⟨gl, off + 1, none⟩ = false := by
  obtain ⟨off, cur, e1, e2, e3⟩ := h.row (by simp)
  obtain ⟨h0, h1, h2⟩ := e3 0 s rfl
  refine ⟨off, e1, ?_, ?_, ?_, blk_frozen e2 _⟩
  · rw [blk_cell e2 off]; exact h0
  · rw [blk_cell e2 (off + 1)]; exact h1
  · rw [blk_cell e2 (off + 2)]; exact h2
structure TakeP (w0 w : World) (n₀ g gl gt : Nat) (l' : List S26) (t' : List Int) (w' : World) : Prop where
  b : Below n₀ w0 w'
  z : w.heap.size ≤ w'.heap.size
  o : ∀ k, k < w.heap.size → k ≠ g → k ≠ gl → w'.heap[k]? = w.heap[k]?
  r : ∃ (gt' c cB : Nat) (A B : Option Addr), Rd w' n₀ g gl gt' A c B cB l' t' ∧ (0 < t'.length → gt' = gt ∨ w.heap.size ≤ gt')
theorem row_set1 {W : World} {gl off : Nat} {cur : Array Value} {s : S26} {r : List S26} (z : Int) (hb : W.heap[gl]? = some (.cells cur 26 (0, 0)))
    (h : ∀ (j : Nat) (x : S26), (s :: r)[j]? = some x → cur[off + 3 * j]? = some (.int .i64 x.f0) ∧ cur[off + 3 * j + 1]? = some (.int .i64 x.f1) ∧ cur[off + 3 * j + 2]? = some (.string x.f2)) :
    ∃ cur', (W.setCell ⟨gl, off + 1, none⟩ (.int .i64 z)).heap[gl]? = some (.cells cur' 26 (0, 0)) ∧
      ∀ (j : Nat) (x : S26), ((⟨s.f0, z, s.f2⟩ : S26) :: r)[j]? = some x → cur'[off + 3 * j]? = some (.int .i64 x.f0) ∧ cur'[off + 3 * j + 1]? = some (.int .i64 x.f1) ∧ cur'[off + 3 * j + 2]? = some (.string x.f2) := by
  refine ⟨cur.setIfInBounds (off + 1) (.int .i64 z), blk_put hb (off + 1) _ rfl, fun j x hx => ?_⟩
  have hlt : off + 1 < cur.size := by
    obtain ⟨_, h1, _⟩ := h 0 s rfl
    exact (Array.getElem?_eq_some_iff.1 h1).1
  cases j with
  | zero =>
    obtain rfl : (⟨s.f0, z, s.f2⟩ : S26) = x := by simpa using hx
    obtain ⟨h0, h1, h2⟩ := h 0 s rfl
    refine ⟨?_, ?_, ?_⟩
    · rw [Array.getElem?_setIfInBounds_ne (by omega)]; exact h0
    · simp [hlt]
    · rw [Array.getElem?_setIfInBounds_ne (by omega)]; exact h2
  | succ j =>
    obtain ⟨h0, h1, h2⟩ := h (j + 1) x (by simpa using hx)
    rw [Array.getElem?_setIfInBounds_ne (by omega), Array.getElem?_setIfInBounds_ne (by omega), Array.getElem?_setIfInBounds_ne (by omega)]
    exact ⟨h0, h1, h2⟩
theorem row_tail {W : World} {A : Option Addr} {gl c : Nat} {s : S26} {r : List S26} (h : RowAt W A gl (s :: r)) (hc : (s :: r).length ≤ c) : RowAt W (if c = 1 then A else A.map (·.add (1 * 3))) gl r := by
  intro hp
  obtain ⟨off, cur, e1, e2, e3⟩ := h (by simp)
  subst e1
  have hc1 : c ≠ 1 := by simp at hc; omega
  refine ⟨off + 3, cur, ?_, e2, fun j x hx => ?_⟩
  · rw [if_neg hc1]
    simp [Addr.add]
  · have := e3 (j + 1) x (by simpa using hx)
    rw [show off + 3 * (j + 1) = off + 3 + 3 * j by omega] at this
    exact this
end Go.Proofs.YtkefbljogjcodaaDoor.F
end
section
namespace Go.Proofs.YtkefbljogjcodaaDoor.F
open Go.RowKit Go.Proofs.YtkefbljogjcodaaDoorW.PrintWords Go.Proofs.YtkefbljogjcodaaDoorW.PrintLast Go.Proofs.YtkefbljogjcodaaDoorW.PrintMore
set_option linter.unusedVariables false
set_option linter.unusedSimpArgs false
theorem row_own {W : World} {base : Nat} {ok : Nat → Prop} {v : Value} {l : List S26} (h : Kd.R k26 26 W base ok v l) : ∃ (gl c : Nat) (A : Option Addr), v = .slice A l.length c ∧ l.length ≤ c ∧ c ≤ 9223372036854775807 ∧ RowAt W A gl l ∧ (0 < l.length → base ≤ gl) := by
  obtain ⟨hok, inner, ho, hr⟩ := h
  rcases ho.2 with ⟨hv, h0⟩ | ⟨g, cap, cur, hv, hb, hh, hnc, hcm, hcs, htake⟩
  · have ht : l.length = 0 := h0
    exact ⟨0, 0, none, by rw [hv, ht], by omega, by omega, fun hp => by omega, fun hp => by omega⟩
  · refine ⟨g, cap, _, hv, hnc, hcm, fun _ => ⟨0, cur, rfl, hh, fun j s hs => ?_⟩, fun _ => hb⟩
    have hj := (List.getElem?_eq_some_iff.1 hs).1
    have hM : (inner.drop (j * 3)).take 3 = [Value.int .i64 s.f0, .int .i64 s.f1, .string s.f2] := k26_openM (hr.2 j s hs)
    have cell : ∀ q, q < 3 → cur[0 + 3 * j + q]? = ([Value.int .i64 s.f0, .int .i64 s.f1, .string s.f2] : List Value)[q]? := by
      intro q hq
      have e := congrArg (·[q]?) hM
      simp only [List.getElem?_take, List.getElem?_drop] at e
      rw [if_pos hq] at e
      rw [← e, ← htake, List.getElem?_take, if_pos (show j * 3 + q < l.length * k26.sz from by show j * 3 + q < l.length * 3; omega), Array.getElem?_toList]
      congr 1
      omega
    exact ⟨cell 0 (by omega), cell 1 (by omega), cell 2 (by omega)⟩
structure CmS (w0 W : World) (gx glx gy gly : Nat) (lx : List S26) (tx : List Int) (ly : List S26) (ty : List Int) (out : List S26) (v : Value) : Prop where
  b : Below w0.heap.size w0 W
  x : ∃ (gt c cB : Nat) (A B : Option Addr), Rd W w0.heap.size gx glx gt A c B cB lx tx
  y : ∃ (gt c cB : Nat) (A B : Option Addr), Rd W w0.heap.size gy gly gt A c B cB ly ty
  n1 : gx ≠ gy
  n2 : 0 < lx.length → 0 < ly.length → glx ≠ gly
  o : Kd.R k26 26 W w0.heap.size (fun _ => True) v out
  nx : 0 < lx.length → some glx ≠ v.ownBlock
  ny : 0 < ly.length → some gly ≠ v.ownBlock
theorem CmS.swap {w0 W : World} {gx glx gy gly : Nat} {lx ly out : List S26} {tx ty : List Int} {v : Value} (h : CmS w0 W gx glx gy gly lx tx ly ty out v) : CmS w0 W gy gly gx glx ly ty lx tx out v :=
  ⟨h.b, h.y, h.x, h.n1.symm, fun a b e => h.n2 b a e.symm, h.o, h.ny, h.nx⟩
theorem CmS.below {w0 W W' : World} {gx glx gy gly : Nat} {lx ly out : List S26} {tx ty : List Int} {v : Value} (h : CmS w0 W gx glx gy gly lx tx ly ty out v) (hb : Below W.heap.size W W') : CmS w0 W' gx glx gy gly lx tx ly ty out v := by
  obtain ⟨gt, c, cB, A, B, X⟩ := h.x
  obtain ⟨gt', c', cB', A', B', Y⟩ := h.y
  exact ⟨below_step h.b hb, ⟨gt, c, cB, A, B, X.below hb⟩, ⟨gt', c', cB', A', B', Y.below hb⟩, h.n1, h.n2, Kd.R_below h.o hb, h.nx, h.ny⟩
theorem R_own_only {W : World} {base : Nat} {ok : Nat → Prop} {v : Value} {l : List S26} (h : Kd.R k26 26 W base ok v l) : Kd.R k26 26 W base (fun k => some k = v.ownBlock) v l :=
  Kd.R_flat (fun hm => by obtain rfl := k26_openM hm; exact k26_mkM _ _ _ _) h (fun k hk _ => hk.symm)
theorem R_any {W : World} {base : Nat} {ok : Nat → Prop} {v : Value} {l : List S26} (h : Kd.R k26 26 W base ok v l) : Kd.R k26 26 W base (fun _ => True) v l := Kd.R_mono h (fun _ _ => trivial)
theorem CmS.take {w0 W W' : World} {gx glx gy gly gt : Nat} {lx lx' ly out : List S26} {tx tx' ty : List Int} {v : Value} (h : CmS w0 W gx glx gy gly lx tx ly ty out v) (hp : 0 < lx.length) (hl : lx'.length ≤ lx.length) (tp : TakeP w0 W w0.heap.size gx glx gt lx' tx' W') : CmS w0 W' gx glx gy gly lx' tx' ly ty out v := by
  obtain ⟨gtx, c, cB, A, B, X⟩ := h.x
  obtain ⟨gty, c', cB', A', B', Y⟩ := h.y
  obtain ⟨gtx', c2, cB2, A2, B2, X2, _⟩ := tp.r
  obtain ⟨_, cur, _, xr, _⟩ := X.row hp
  refine ⟨tp.b, ⟨gtx', c2, cB2, A2, B2, X2⟩, ⟨gty, c', cB', A', B', Y.keep (tp.o gy Y.lt.1 (fun e => h.n1 e.symm) (blk_ne Y.blk xr (by decide))) (fun hq => ?_) (fun hq => ?_)⟩, h.n1, fun a b => h.n2 hp b, R_any (Kd.R_step (R_own_only h.o) (fun k hk hlt => tp.o k hlt ?_ ?_)), fun a => h.nx hp, h.ny⟩
  · obtain ⟨_, _, _, yr, _⟩ := Y.row hq
    exact tp.o gly (Y.lt.2.1 hq) (blk_ne yr X.blk (by decide)) (fun e => h.n2 hp hq e.symm)
  · obtain ⟨_, _, _, yt, _⟩ := Y.txt hq
    exact tp.o gty (Y.lt.2.2 hq) (blk_ne yt X.blk (by decide)) (blk_ne yt xr (by decide))
  · intro e
    rw [e] at hk
    exact Kd.R_ne h.o X.blk (by decide) hk
  · intro e
    rw [e] at hk
    exact h.nx hp hk
theorem CmS.append {w0 W w1 : World} {gx glx gy gly : Nat} {lx ly out out' : List S26} {tx ty : List Int} {v v1 : Value} (h : CmS w0 W gx glx gy gly lx tx ly ty out v) (ho : Kd.R k26 26 w1 w0.heap.size (fun _ => True) v1 out') (hb : Below w0.heap.size w0 w1) (hg : W.grownBy w1 v.ownBlock) (hat : v1.ownBlock = v.ownBlock ∨ ∃ b, v1.ownBlock = some b ∧ W.heap.size ≤ b) : CmS w0 w1 gx glx gy gly lx tx ly ty out' v1 := by
  obtain ⟨gtx, c, cB, A, B, X⟩ := h.x
  obtain ⟨gty, c', cB', A', B', Y⟩ := h.y
  have away : ∀ k, k < W.heap.size → some k ≠ v.ownBlock → some k ≠ v1.ownBlock := by
    intro k hk hn e
    rcases hat with e1 | ⟨b, e1, hb⟩
    · exact hn (e.trans e1)
    · rw [e1] at e
      injection e with e
      omega
  refine ⟨hb, ⟨gtx, c, cB, A, B, X.keep (hg.block gx X.lt.1 (Kd.R_ne h.o X.blk (by decide))) (fun hp => hg.block glx (X.lt.2.1 hp) (h.nx hp)) (fun hp => ?_)⟩, ⟨gty, c', cB', A', B', Y.keep (hg.block gy Y.lt.1 (Kd.R_ne h.o Y.blk (by decide))) (fun hp => hg.block gly (Y.lt.2.1 hp) (h.ny hp)) (fun hp => ?_)⟩, h.n1, h.n2, ho, fun hp => away _ (X.lt.2.1 hp) (h.nx hp), fun hp => away _ (Y.lt.2.1 hp) (h.ny hp)⟩
  · obtain ⟨_, _, _, e2, _⟩ := X.txt hp
    exact hg.block gtx (X.lt.2.2 hp) (Kd.R_ne h.o e2 (by decide))
  · obtain ⟨_, _, _, e2, _⟩ := Y.txt hp
    exact hg.block gty (Y.lt.2.2 hp) (Kd.R_ne h.o e2 (by decide))
end Go.Proofs.YtkefbljogjcodaaDoor.F
end
section
namespace Go.Proofs.YtkefbljogjcodaaDoor.F
open Go.RowKit Go.Proofs.YtkefbljogjcodaaDoorW.PrintWords Go.Proofs.YtkefbljogjcodaaDoorW.PrintLast Go.Proofs.YtkefbljogjcodaaDoorW.PrintMore
attribute [local go_sem] max2_int min2_int max_two min_two max_three min_three max_four min_four cell_setCell_isSome
set_option linter.unusedVariables false
set_option linter.unusedSimpArgs false
open Kd
def op_row_sum_Out.l0 : Nat → Int → List (S26) → Int → Int → Option (Int)
  | 0, _, _, _, _ => none
  | k + 1, x5, x8, x9, x10 => if x10 < x9 then (if 0 ≤ x10 then (if x10 < (x8.length : Int) then ((span_Out.f ((rd_T26 x8 x10).f0) ((rd_T26 x8 x10).f1) ((rd_T26 x8 x10).f2)).bind fun t103 => (op_row_sum_Out.l0 k (wrap64 (x5 + t103)) x8 x9 (wrap64 (x10 + 1)))) else (none)) else (none)) else (some x5)
theorem op_row_sum_Out.mono_l : ∀ k, (∀ y0 y1 y2 y3, LeO (op_row_sum_Out.l0 k y0 y1 y2 y3) (op_row_sum_Out.l0 (k + 1) y0 y1 y2 y3))
  | 0 => fun _ _ _ _ r h => by simp [op_row_sum_Out.l0] at h
  | k + 1 => by
    have ih0 := op_row_sum_Out.mono_l k
    · intro y0 y1 y2 y3
      unfold op_row_sum_Out.l0
      repeat' first
      | (with_reducible exact ih0 _ _ _ _)
      | (with_reducible exact LeO.refl _)
      | (with_reducible exact LeO.none _)
      | (with_reducible refine LeO.ite ?_ ?_)
      | (with_reducible refine LeO.bind ?_ (fun _ => ?_))
      | exact ih0 _ _ _ _
      | exact LeO.none _
      | refine LeO.ite ?_ ?_
      | refine LeO.bind ?_ (fun _ => ?_)
end Go.Proofs.YtkefbljogjcodaaDoor.F
end
section
namespace Go.Proofs.YtkefbljogjcodaaDoor.F
open Go.RowKit Go.Proofs.YtkefbljogjcodaaDoorW.PrintWords Go.Proofs.YtkefbljogjcodaaDoorW.PrintLast Go.Proofs.YtkefbljogjcodaaDoorW.PrintMore
set_option linter.unusedVariables false
set_option linter.unusedSimpArgs false
theorem Rd.drew {W : World} {n₀ g gl gt c cB : Nat} {A B : Option Addr} {l : List S26} {t : List Int} (h : Rd W n₀ g gl gt A c B cB l t) : Rd W.drew n₀ g gl gt A c B cB l t := h.below (below_drew1 (Below.refl _ _))
theorem Rd.far {W : World} {n₀ g gl gt c cB : Nat} {A B : Option Addr} {l : List S26} {t : List Int} (h : Rd W n₀ g gl gt A c B cB l t) (k j : Nat) (v : Value) (h0 : k ≠ g) (h1 : 0 < l.length → k ≠ gl) (h2 : 0 < t.length → k ≠ gt) : Rd (W.setCell ⟨k, j, none⟩ v) n₀ g gl gt A c B cB l t :=
  h.keep (Below.heap_setCell W ⟨k, j, none⟩ v g (fun e => h0 e.symm)) (fun hp => Below.heap_setCell W ⟨k, j, none⟩ v gl (fun e => h1 hp e.symm)) (fun hp => Below.heap_setCell W ⟨k, j, none⟩ v gt (fun e => h2 hp e.symm))
def SpanAt (W : World) (b : Nat) (x : S26) : Prop := W.heap[b]? = some (.cells #[.int .i64 x.f0, .int .i64 x.f1, .string x.f2] 26 (0, 0))
theorem SpanAt.cells {W : World} {b : Nat} {x : S26} (h : SpanAt W b x) : W.cell? ⟨b, 0, none⟩ = some (.int .i64 x.f0) ∧ W.cell? ⟨b, 1, none⟩ = some (.int .i64 x.f1) ∧ W.cell? ⟨b, 2, none⟩ = some (.string x.f2) ∧ W.frozen? ⟨b, 0, none⟩ = false ∧ W.frozen? ⟨b, 1, none⟩ = false ∧ W.frozen? ⟨b, 2, none⟩ = false :=
  ⟨(blk_cell h 0).trans rfl, (blk_cell h 1).trans rfl, (blk_cell h 2).trans rfl, blk_frozen h 0, blk_frozen h 1, blk_frozen h 2⟩
theorem SpanAt.set {W : World} {b : Nat} {y : S26} (h : SpanAt W b y) (x : S26) : SpanAt (((W.setCell ⟨b, 0, none⟩ (.int .i64 x.f0)).setCell ⟨b, 1, none⟩ (.int .i64 x.f1)).setCell ⟨b, 2, none⟩ (.string x.f2)) b x :=
  blk_put (blk_put (blk_put h 0 _ rfl) 1 _ rfl) 2 _ rfl
theorem SpanAt.far {W : World} {b k j : Nat} {v : Value} {x : S26} (h : SpanAt W b x) (hne : b ≠ k) : SpanAt (W.setCell ⟨k, j, none⟩ v) b x := (Below.heap_setCell W ⟨k, j, none⟩ v b hne).trans h
theorem TakeP.drew {w0 w W : World} {n₀ g gl gt : Nat} {l' : List S26} {t' : List Int} (h : TakeP w0 w n₀ g gl gt l' t' W) : TakeP w0 w n₀ g gl gt l' t' W.drew := by
  obtain ⟨gt', c, cB, A, B, R, ht⟩ := h.r
  exact ⟨below_drew1 h.b, h.z, h.o, gt', c, cB, A, B, R.drew, ht⟩
theorem RowAt.drew {W : World} {A : Option Addr} {gl : Nat} {l : List S26} (h : RowAt W A gl l) : RowAt W.drew A gl l := fun hp => by
  obtain ⟨o, cur, e1, e2, e3⟩ := h hp
  exact ⟨o, cur, e1, blk_drew e2, e3⟩
theorem Rd.tail {W : World} {n₀ g gl gt c cB : Nat} {A B : Option Addr} {s : S26} {r : List S26} {t : List Int} (h : Rd W n₀ g gl gt A c B cB (s :: r) t) : RowAt (W.setCell ⟨g, 0, none⟩ (.slice (if c = 1 then A else A.map (·.add (1 * 3))) r.length (c - 1))) (if c = 1 then A else A.map (·.add (1 * 3))) gl r := fun hp => by
  obtain ⟨o, cur, e1, e2, e3⟩ := row_tail h.row h.lc hp
  exact ⟨o, cur, e1, (Below.heap_setCell W ⟨g, 0, none⟩ _ gl (blk_ne e2 h.blk (by decide))).trans e2, e3⟩
end Go.Proofs.YtkefbljogjcodaaDoor.F
end
section
namespace Go.Proofs.YtkefbljogjcodaaDoor.F
open Go.RowKit Go.Proofs.YtkefbljogjcodaaDoorW.PrintWords Go.Proofs.YtkefbljogjcodaaDoorW.PrintLast Go.Proofs.YtkefbljogjcodaaDoorW.PrintMore
set_option linter.unusedVariables false
set_option linter.unusedSimpArgs false
theorem fill_two (A0 A1 : Option Addr) (n0 c0 n1 c1 : Nat) (z : Nat) (hz : z = 1) : Instr.fill (fun i => some (i * z, z)) ((Array.range (2 * z)).map ((Value.slice none 0 0).cells[· % (Value.slice none 0 0).cells.size]!)) [(0, .slice A0 n0 c0), (1, .slice A1 n1 c1)] = some #[.slice A0 n0 c0, .slice A1 n1 c1] := by
  subst hz
  simp [Instr.fill, Value.cells]
  rw [show Array.range 2 = #[0, 1] from rfl]
  simp
theorem info_rows : ∃ ie, Tryd.prog.info? 27 = some ie ∧ ie.size = 1 ∧ ie.zero = some (.slice none 0 0) := by
  have h1 : (Tryd.prog.info? 27).map (·.size) = some 1 := by kernel_rfl
  have h2 : (Tryd.prog.info? 27).bind (·.zero) = some (.slice none 0 0) := by kernel_rfl
  cases hie : Tryd.prog.info? 27 with
  | none => rw [hie] at h1; cases h1
  | some ie =>
    rw [hie] at h1 h2
    exact ⟨ie, rfl, by simpa using h1, h2⟩
def MayI (k : Nat) (l0 l1 : List S26) (kq : Nat) (v : Value) : Prop := (v = .int .i64 0 ∧ kq = 2) ∨ (v = .int .i64 1 ∧ kq = 1 ∧ op_May.f k l0 = some 0) ∨ (v = .int .i64 2 ∧ kq = 0 ∧ op_May.f k l0 = some 0 ∧ op_May.f k l1 = some 0)
theorem mn_min (a b : Int) : mn a b = min a b := by unfold mn; omega
theorem R_low {W : World} {b b' : Nat} {ok : Nat → Prop} {v : Value} {l : List S26} (hb : b' ≤ b) (h : Kd.R k26 26 W b ok v l) : Kd.R k26 26 W b' (fun _ => True) v l := Kd.R_mono (Kd.R_lower h hb) (fun _ _ => trivial)
end Go.Proofs.YtkefbljogjcodaaDoor.F
end
section
namespace Go.Proofs.YtkefbljogjcodaaDoor.F
open Go.RowKit Go.Proofs.YtkefbljogjcodaaDoorW.PrintWords Go.Proofs.YtkefbljogjcodaaDoorW.PrintLast Go.Proofs.YtkefbljogjcodaaDoorW.PrintMore
set_option linter.unusedVariables false
set_option linter.unusedSimpArgs false
def lessL : List S26 → Int → List S26
  | [], _ => []
  | s :: r, n => if wrap64 (s.f1 - n) = 0 then r else ⟨s.f0, wrap64 (s.f1 - n), s.f2⟩ :: r
def overL : Nat → List S26 → List S26 → List S26 → Option (List S26)
  | 0, _, _, _ => none
  | _ + 1, [], [], out => some out
  | k + 1, a :: x, [], out => if a.f0 = 2 then (if out.length < 4398046511104 then overL k x [] (out ++ [a]) else none) else none
  | k + 1, [], s :: y, out => if s.f0 = 2 then (span_Out.f s.f0 s.f1 s.f2).bind fun o => (if out.length < 4398046511104 then overL k [] y (out ++ [⟨1, o, ⟨#[]⟩⟩]) else none) else none
  | k + 1, a :: x, s :: y, out => if s.f0 = 2 then (span_Out.f s.f0 s.f1 s.f2).bind fun o => (if out.length < 4398046511104 then overL k (a :: x) y (out ++ [⟨1, o, ⟨#[]⟩⟩]) else none)
    else if a.f0 = 2 then (if out.length < 4398046511104 then overL k x (s :: y) (out ++ [a]) else none)
    else if s.f0 = 1 then (if out.length < 4398046511104 then overL k (lessL (a :: x) (mn a.f1 s.f1)) (lessL (s :: y) (mn a.f1 s.f1)) (out ++ [⟨a.f0, mn a.f1 s.f1, ⟨#[]⟩⟩]) else none)
    else overL k (lessL (a :: x) (mn a.f1 s.f1)) (lessL (s :: y) (mn a.f1 s.f1)) out
theorem overL.mono : ∀ (k : Nat) (x y out : List S26), LeO (overL k x y out) (overL (k + 1) x y out)
  | 0, _, _, _ => fun r h => by cases h
  | k + 1, [], [], out => LeO.refl _
  | k + 1, a :: x, [], out => by
    have ih := overL.mono k
    rw [overL, overL]
    split
    · split
      · exact ih _ _ _
      · exact LeO.refl _
    · exact LeO.refl _
  | k + 1, [], s :: y, out => by
    have ih := overL.mono k
    rw [overL, overL]
    split
    · refine LeO.bind (LeO.refl _) (fun o => ?_)
      split
      · exact ih _ _ _
      · exact LeO.refl _
    · exact LeO.refl _
  | k + 1, a :: x, s :: y, out => by
    have ih := overL.mono k
    rw [overL, overL]
    split
    · refine LeO.bind (LeO.refl _) (fun o => ?_)
      split
      · exact ih _ _ _
      · exact LeO.refl _
    · split
      · split
        · exact ih _ _ _
        · exact LeO.refl _
      · split
        · split
          · exact ih _ _ _
          · exact LeO.refl _
        · exact ih _ _ _
def over_Of.f (k : Nat) (l0 : List S26) (l1 : List S26) : Option (List S26 × Int) :=
  (op_May.f k l0).bind fun e0 => if e0 = 0 then (op_May.f k l1).bind fun e1 => if e1 = 0 then (op_In.f k l0).bind fun n => (op_In.f k l1).bind fun m => if n = m then
    (normal_Of.f k l0).bind fun x => (normal_Of.f k l1).bind fun y => (overL k x y []).bind fun out => (normal_Of.f k out).bind fun r => some (r, 0)
  else some ([], 5) else some ([], e1) else some ([], e0)
theorem over_Of.mono (l0 l1 : List S26) (k : Nat) : LeO (over_Of.f k l0 l1) (over_Of.f (k + 1) l0 l1) := by
  unfold over_Of.f
  refine LeO.bind (op_May.mono _ _) (fun e0 => ?_)
  split
  · refine LeO.bind (op_May.mono _ _) (fun e1 => ?_)
    split
    · refine LeO.bind (op_In.mono _ _) (fun n => LeO.bind (op_In.mono _ _) (fun m => ?_))
      split
      · exact LeO.bind (normal_Of.mono _ _) (fun x => LeO.bind (normal_Of.mono _ _) (fun y => LeO.bind (overL.mono _ _ _ _) (fun out => LeO.bind (normal_Of.mono _ _) (fun r => LeO.refl _))))
      · exact LeO.refl _
    · exact LeO.refl _
  · exact LeO.refl _
structure LessP (gl : Nat) (w : World) (A : Option Addr) (c : Nat) (l : List S26) (w' : World) : Prop where
  b : Below gl w w'
  z : w'.heap.size = w.heap.size
  o : ∀ k, k ≠ gl → w'.heap[k]? = w.heap[k]?
  r : RowAt w' A gl l
  lc : l.length ≤ c
  lm : c ≤ 9223372036854775807
set_option maxRecDepth 100000 in
set_option maxHeartbeats 4000000 in
theorem over_less.calls (gl c : Nat) (A : Option Addr) (s : S26) (r : List S26) (n : Int) (w : World) (hrow : RowAt w A gl (s :: r)) (lc : (s :: r).length ≤ c) (lm : c ≤ 9223372036854775807) :
  Calls Tryd.prog 50 #[.slice A (s :: r).length c, .int .i64 n] w fun e w' => ∃ (A' : Option Addr) (c' : Nat), e = .returned (.slice A' (lessL (s :: r) n).length c') ∧ LessP gl w A' c' (lessL (s :: r) n) w' := by
 obtain ⟨off, cur, rfl, hb, hc⟩ := hrow (by simp)
 have h1 := (blk_cell hb (off + 1)).trans (hc 0 s rfl).2.1
 have hf := blk_frozen hb (off + 1)
 obtain ⟨cur', hb', hc'⟩ := row_set1 (wrap64 (s.f1 - n)) hb hc
 have HB' := Aside0.mk hb'
 have HC' := Aside0.mk hc'
 have LC := Aside0.mk lc;have LM := Aside0.mk lm;have hbel := Aside0.mk ((Below.refl gl w).setCell (p := ⟨gl, off + 1, none⟩) (Nat.le_refl _) (.int .i64 (wrap64 (s.f1 - n))))
 have hoth : Aside0 (∀ k, k ≠ gl → (w.setCell ⟨gl, off + 1, none⟩ (.int .i64 (wrap64 (s.f1 - n)))).heap[k]? = w.heap[k]?) := ⟨fun k hk => Below.heap_setCell w ⟨gl, off + 1, none⟩ _ k hk⟩
 have hsz : Aside0 ((w.setCell ⟨gl, off + 1, none⟩ (.int .i64 (wrap64 (s.f1 - n)))).heap.size = w.heap.size) := ⟨by simp [World.setCell]⟩
 obtain ⟨i1, hi1, _, hsz1, _⟩ := info_parts info26
 have hcr := cut_from (P := Tryd.prog) 27 26 .i64 Tryd.underlying27 hi1 3 hsz1 (some ⟨gl, off, none⟩) (s :: r).length c 1 (by omega) (by rw [List.length_cons]; omega)
 rw [show ((1 : Int).toNat) = 1 from rfl, show (s :: r).length - 1 = r.length from rfl] at hcr
 obtain ⟨A2, hA2⟩ : ∃ A2, (if c = 1 then (some ⟨gl, off, none⟩ : Option Addr) else (some ⟨gl, off, none⟩ : Option Addr).map (·.add (1 * 3))) = A2 := ⟨_, rfl⟩
 rw [hA2] at hcr
 have HA2 := Aside0.mk hA2;rw [List.length_cons] at hcr ⊢
 clear hb hc hb' hc' lc lm hrow hA2 hi1 hsz1;by_cases hz : wrap64 (s.f1 - n) = 0
 ·have d1 : (wrap64 (s.f1 - n) == 0) = true := by simp [hz]
  have HZ := Aside0.mk hz;clear hz;go_enter Tryd.func50, Tryd.ntmps50
  go_wp2
  go_ret
  rw [lessL, if_pos HZ.out]
  have lc2 := LC.out;rw [List.length_cons] at lc2
  refine ⟨A2, c - 1, rfl, hbel.out, hsz.out, hoth.out, ?_, by omega, by have := LM.out; omega⟩
  have := row_tail (c := c) (fun _ => ⟨off, cur', rfl, HB'.out, HC'.out⟩) LC.out
  rw [HA2.out] at this
  exact this
 ·have d1 : (wrap64 (s.f1 - n) == 0) = false := by simp [hz]
  have HZ := Aside0.mk hz;clear hz;go_enter Tryd.func50, Tryd.ntmps50
  go_wp2
  go_ret
  rw [lessL, if_neg HZ.out]
  exact ⟨_, _, rfl, hbel.out, hsz.out, hoth.out, fun _ => ⟨off, cur', rfl, HB'.out, HC'.out⟩, LC.out, LM.out⟩
theorem over_less.callsN (gl c : Nat) (A : Option Addr) (s : S26) (r : List S26) (m : Nat) (hm : r.length = m) (n : Int) (w : World) (hrow : RowAt w A gl (s :: r)) (lc : (s :: r).length ≤ c) (lm : c ≤ 9223372036854775807) :
  Calls Tryd.prog 50 #[.slice A (m + 1) c, .int .i64 n] w fun e w' => ∃ (A' : Option Addr) (c' : Nat), e = .returned (.slice A' (lessL (s :: r) n).length c') ∧ LessP gl w A' c' (lessL (s :: r) n) w' := by
 subst hm
 exact over_less.calls gl c A s r n w hrow lc lm
set_option maxRecDepth 100000 in
set_option maxHeartbeats 4000000 in
theorem over_defer.calls (k g : Nat) (v : Value) (l r : List S26) (w0 w : World) (hB : Below w0.heap.size w0 w) (hg : w0.heap.size ≤ g) (hc : w.heap[g]? = some (.cells #[v] 27 (0, 0))) (ho : Kd.R k26 26 w w0.heap.size (fun _ => True) v l) (h : normal_Of.f k l = some r) :
  CallsD Tryd.prog 48 #[.pointer (some ⟨g, 0, none⟩)] .returning w fun e u' w' => u' = .returning ∧ (e = .returned (.tuple #[]) ∧ ∃ v1 : Value, w'.cell? ⟨g, 0, none⟩ = some v1 ∧ Kd.R k26 26 w' w0.heap.size (fun _ => True) v1 r ∧ Below w0.heap.size w0 w') := by
 obtain ⟨A, c, rfl⟩ := Kd.R_slice ho
 obtain ⟨_, hcv, hC⟩ := Kd.R_reads' ho
 have c0 := (blk_cell hc 0).trans (show _ = some (Value.slice A l.length c) from rfl)
 have HCV := Aside0.mk hcv;have HCC := Aside0.mk hC;have HB := Aside0.mk hB;have HG := Aside0.mk hg;have HC := Aside0.mk hc;have H := Aside0.mk h;clear hcv hC hB hg hc h ho;go_enter_d Tryd.func48, Tryd.ntmps48
 go_wp2_with (go_at_call 19; (with_reducible refine (normal_Of.calls k _ _ l r _ HCC.out HCV.out H.out).mono ?_); rintro e W1 ⟨v1, rfl, hv1, hb⟩; obtain ⟨A1, c1, rfl⟩ := Kd.R_slice hv1; have HV1 := Aside0.mk hv1; have HB5 := Aside0.mk hb; have HCB := Aside0.mk (blk_below HC.out hb); have fz := blk_frozen (blk_below HC.out hb) 0; have cz := (blk_cell (blk_below HC.out hb) 0).trans (show _ = some (Value.slice A l.length c) from rfl); clear hv1 hb)
 go_end0
 exact ⟨rfl, _, (blk_cell (blk_put HCB.out 0 _ rfl) 0).trans rfl, Kd.R_set (R_low HB.out.size HV1.out) HCB.out (by decide) 0 _, (below_step HB.out HB5.out).setCell (p := ⟨g, 0, none⟩) HG.out _⟩
structure OvS (w0 W : World) (gL glx gly cx cy : Nat) (A B : Option Addr) (x y out : List S26) (v : Value) : Prop where
 b : Below w0.heap.size w0 W
 rx : RowAt W A glx x
 ry : RowAt W B gly y
 hx : 0 < x.length → w0.heap.size ≤ glx
 hy : 0 < y.length → w0.heap.size ≤ gly
 xc : x.length ≤ cx
 xm : cx ≤ 9223372036854775807
 yc : y.length ≤ cy
 ym : cy ≤ 9223372036854775807
 n : 0 < x.length → 0 < y.length → glx ≠ gly
 c : W.heap[gL]? = some (.cells #[v] 27 (0, 0))
 hL : w0.heap.size ≤ gL
 o : Kd.R k26 26 W w0.heap.size (fun _ => True) v out
 nx : 0 < x.length → some glx ≠ v.ownBlock
 ny : 0 < y.length → some gly ≠ v.ownBlock
theorem RowAt.keep {W W' : World} {A : Option Addr} {gl : Nat} {l : List S26} (h : RowAt W A gl l) (hk : 0 < l.length → W'.heap[gl]? = W.heap[gl]?) : RowAt W' A gl l := fun hp => by
 obtain ⟨o, cur, e1, e2, e3⟩ := h hp
 exact ⟨o, cur, e1, (hk hp).trans e2, e3⟩
theorem RowAt.lt {W : World} {A : Option Addr} {gl : Nat} {l : List S26} (h : RowAt W A gl l) (hp : 0 < l.length) : gl < W.heap.size := by
 obtain ⟨_, _, _, e, _⟩ := h hp
 exact blk_lt e
theorem OvS.swap {w0 W : World} {gL glx gly cx cy : Nat} {A B : Option Addr} {x y out : List S26} {v : Value} (h : OvS w0 W gL glx gly cx cy A B x y out v) : OvS w0 W gL gly glx cy cx B A y x out v :=
 ⟨h.b, h.ry, h.rx, h.hy, h.hx, h.yc, h.ym, h.xc, h.xm, fun a b e => h.n b a e.symm, h.c, h.hL, h.o, h.ny, h.nx⟩
theorem OvS.below {w0 W W' : World} {gL glx gly cx cy : Nat} {A B : Option Addr} {x y out : List S26} {v : Value} (h : OvS w0 W gL glx gly cx cy A B x y out v) (hb : Below W.heap.size W W') : OvS w0 W' gL glx gly cx cy A B x y out v :=
 ⟨below_step h.b hb, h.rx.keep (fun hp => hb.block _ (h.rx.lt hp)), h.ry.keep (fun hp => hb.block _ (h.ry.lt hp)), h.hx, h.hy, h.xc, h.xm, h.yc, h.ym, h.n, blk_below h.c hb, h.hL, Kd.R_below h.o hb, h.nx, h.ny⟩
theorem OvS.far {w0 W : World} {gL glx gly cx cy : Nat} {A B : Option Addr} {x y out : List S26} {v : Value} (h : OvS w0 W gL glx gly cx cy A B x y out v) (hp : 0 < x.length) : glx ≠ gL := by
 obtain ⟨_, _, _, e, _⟩ := h.rx hp
 exact blk_ne e h.c (by decide)
theorem OvS.less {w0 W W' : World} {gL glx gly cx cy cx' : Nat} {A B A' : Option Addr} {x x' y out : List S26} {v : Value} (h : OvS w0 W gL glx gly cx cy A B x y out v) (hp : 0 < x.length) (hl : LessP glx W A' cx' x' W') : OvS w0 W' gL glx gly cx' cy A' B x' y out v :=
 ⟨h.b.trans (hl.b.mono (h.hx hp)), hl.r, h.ry.keep (fun hq => hl.o _ (fun e => h.n hp hq e.symm)), fun _ => h.hx hp, h.hy, hl.lc, hl.lm, h.yc, h.ym, fun _ hq => h.n hp hq, (hl.o _ (fun e => h.far hp e.symm)).trans h.c, h.hL, R_any (Kd.R_step (R_own_only h.o) (fun k hk _ => hl.o k (fun e => by subst e; exact h.nx hp hk))), fun _ => h.nx hp, h.ny⟩
theorem OvS.tail {w0 W : World} {gL glx gly cx cy : Nat} {A B A' : Option Addr} {s : S26} {x y out : List S26} {v : Value} (h : OvS w0 W gL glx gly cx cy A B (s :: x) y out v) (e : (if cx = 1 then A else A.map (·.add (1 * 3))) = A') : OvS w0 W gL glx gly (cx - 1) cy A' B x y out v :=
 ⟨h.b, by rw [← e]; exact row_tail h.rx h.xc, h.ry, fun _ => h.hx (by simp), h.hy, by have := h.xc; rw [List.length_cons] at this; omega, by have := h.xm; omega, h.yc, h.ym, fun _ hq => h.n (by simp) hq, h.c, h.hL, h.o, fun _ => h.nx (by simp), h.ny⟩
theorem OvS.append {w0 W w1 : World} {gL glx gly cx cy : Nat} {A B : Option Addr} {x y out out' : List S26} {v v1 : Value} (h : OvS w0 W gL glx gly cx cy A B x y out v) (ho : Kd.R k26 26 w1 w0.heap.size (fun _ => True) v1 out') (hb : Below w0.heap.size w0 w1) (hg : W.grownBy w1 v.ownBlock) (hat : v1.ownBlock = v.ownBlock ∨ ∃ b, v1.ownBlock = some b ∧ W.heap.size ≤ b) :
  OvS w0 (w1.setCell ⟨gL, 0, none⟩ v1) gL glx gly cx cy A B x y out' v1 := by
 have away : ∀ k, k < W.heap.size → some k ≠ v.ownBlock → some k ≠ v1.ownBlock := by
  intro k hk hn e;rcases hat with e1 | ⟨b, e1, hb⟩
  ·exact hn (e.trans e1)
  ·rw [e1] at e
   injection e with e
   omega
 have hc1 : w1.heap[gL]? = some (.cells #[v] 27 (0, 0)) := (hg.block gL (blk_lt h.c) (Kd.R_ne h.o h.c (by decide))).trans h.c
 have keep : ∀ k, k < W.heap.size → k ≠ gL → some k ≠ v.ownBlock → (w1.setCell ⟨gL, 0, none⟩ v1).heap[k]? = W.heap[k]? := fun k hk h1 h2 => (Below.heap_setCell w1 ⟨gL, 0, none⟩ v1 k h1).trans (hg.block k hk h2)
 exact ⟨hb.setCell (p := ⟨gL, 0, none⟩) h.hL _, h.rx.keep (fun hp => keep _ (h.rx.lt hp) (h.far hp) (h.nx hp)), h.ry.keep (fun hp => keep _ (h.ry.lt hp) (h.swap.far hp) (h.ny hp)), h.hx, h.hy, h.xc, h.xm, h.yc, h.ym, h.n, blk_put hc1 0 _ rfl, h.hL, Kd.R_set ho hc1 (by decide) 0 _, fun hp => away _ (h.rx.lt hp) (h.nx hp), fun hp => away _ (h.ry.lt hp) (h.ny hp)⟩
theorem OvS.box {w0 W w1 : World} {gL glx gly cx cy : Nat} {A B : Option Addr} {x y out : List S26} {v : Value} (h : OvS w0 W gL glx gly cx cy A B x y out v) (hg : W.grownBy w1 v.ownBlock) : w1.heap[gL]? = some (.cells #[v] 27 (0, 0)) := (hg.block gL (blk_lt h.c) (Kd.R_ne h.o h.c (by decide))).trans h.c
set_option maxHeartbeats 8000000 in
set_option maxRecDepth 100000 in
theorem over_Of.calls (k : Nat) (A0 : Option Addr) (c0 : Nat) (l0 : List S26) (A1 : Option Addr) (c1 : Nat) (l1 : List S26) (r1 : List S26) (r2 : Int) (w : World) (hG : Glob w) (hr0 : Kd.C k26 w A0 l0.length l0) (hc0 : l0.length ≤ c0) (hr1 : Kd.C k26 w A1 l1.length l1) (hc1 : l1.length ≤ c1) (h : over_Of.f k l0 l1 = some (r1, r2)) :
  Calls Tryd.prog 15 #[.slice A0 l0.length c0, .slice A1 l1.length c1] w fun e w' => ∃ v0_ : Value, e = .returned (.tuple #[v0_, .int .i64 r2]) ∧ Kd.R k26 26 w' w.heap.size (fun _ => True) v0_ r1 ∧ Below w.heap.size w w' := by
 have HG := Aside0.mk hG;have HR0 := Aside0.mk hr0;have HC0 := Aside0.mk hc0;have HR1 := Aside0.mk hr1;have HC1 := Aside0.mk hc1;have H := Aside0.mk h;have HM : Aside0 (l0.length ≤ 9223372036854775807 ∧ l1.length ≤ 9223372036854775807) := ⟨hr0.2.1, hr1.2.1⟩
 clear hG hr0 hc0 hr1 hc1 h;go_enter_defers Tryd.func15, Tryd.ntmps15
 obtain ⟨ie, hie, hi1, hi2⟩ := info_rows
 have HIE := Aside0.mk hie;have HI1 := Aside0.mk hi1;have HI2 := Aside0.mk hi2;clear hie hi1 hi2;go_wp2_with (refine wpList_buildSlice rfl 39 27 2 _ rfl #[.slice A0 l0.length c0, .slice A1 l1.length c1] ie (.slice none 0 0) (by kernel_rfl) HIE.out HI2.out (by rw [HI1.out]; decide) (by rw [HI1.out]; decide) (fill_two A0 A1 l0.length c0 l1.length c1 ie.size HI1.out) ?_)
 have hsz : ((w.alloc (.cells #[.slice none 0 0] 27)).alloc (.cells #[.slice A0 l0.length c0, .slice A1 l1.length c1] 27)).heap.size = w.heap.size + 1 + 1 := by rw [size_alloc, size_alloc]
 have HBX0 : Aside0 (((w.alloc (.cells #[.slice none 0 0] 27)).alloc (.cells #[.slice A0 l0.length c0, .slice A1 l1.length c1] 27)).heap[w.heap.size]? = some (.cells #[.slice none 0 0] 27 (0, 0))) := ⟨blk_alloc (blk_new w _) _⟩
 have HBK0 : Aside0 (((w.alloc (.cells #[.slice none 0 0] 27)).alloc (.cells #[.slice A0 l0.length c0, .slice A1 l1.length c1] 27)).heap[w.heap.size + 1]? = some (.cells #[.slice A0 l0.length c0, .slice A1 l1.length c1] 27 (0, 0))) := ⟨by
  have := blk_new (w.alloc (.cells #[.slice none 0 0] 27)) (.cells #[.slice A0 l0.length c0, .slice A1 l1.length c1] 27)
  rwa [size_alloc] at this⟩
 have HB0 := Aside0.mk (below_alloc (below_alloc (Below.refl w.heap.size w) (.cells #[.slice none 0 0] 27)) (.cells #[.slice A0 l0.length c0, .slice A1 l1.length c1] 27))
 have HSZ := Aside0.mk hsz;clear hsz;go_loopg [14] 2 (fun kq v14 w' => MayI k l0 l1 kq v14 ∧ Aside0 (Below w.heap.size w w') ∧ Aside0 (w'.heap[w.heap.size]? = some (.cells #[.slice none 0 0] 27 (0, 0))) ∧ Aside0 (w'.heap[w.heap.size + 1]? = some (.cells #[.slice A0 l0.length c0, .slice A1 l1.length c1] 27 (0, 0))))
 case atStart => exact ⟨.inl ⟨rfl, rfl⟩, HB0, HBX0, HBK0⟩
 case round =>
  clear HB0 HBX0 HBK0 HIE HI1 HI2 HSZ;obtain ⟨hm, HBW, HBX, HBL⟩ := hrel
  rcases hm with ⟨rfl, rfl⟩ | ⟨rfl, rfl, hm0⟩ | ⟨rfl, rfl, hm0, hm1⟩
  ·obtain ⟨e0, he0, hrest⟩ := Option.bind_eq_some_iff.1 (show (op_May.f k l0).bind _ = _ from H.out)
   have cell0 : wr.cell? ⟨w.heap.size + 1, 0, none⟩ = some (.slice A0 l0.length c0) := (blk_cell HBL.out 0).trans rfl
   have HE := Aside0.mk he0;by_cases hz : e0 = 0
   ·subst hz
    clear hrest he0;go_wp2_with (go_at_call 47; (with_reducible refine (op_May.calls k _ _ l0 0 _ (HG.out.below HBW.out) (Kd.C_below HR0.out HBW.out) HC0.out HE.out).mono ?_); rintro e w1 ⟨rfl, hb⟩; have HB1 := Aside0.mk hb; clear hb)
    go_roundg 1
    case measure => decide
    case rel => exact ⟨.inr (.inl ⟨rfl, rfl, HE.out⟩), ⟨below_step HBW.out HB1.out⟩, ⟨blk_below HBX.out HB1.out⟩, ⟨blk_below HBL.out HB1.out⟩⟩
   ·rw [if_neg hz] at hrest
    obtain ⟨rfl, rfl⟩ : [] = r1 ∧ e0 = r2 := by simpa using hrest
    have d1 : (e0 != 0) = true := by simp [hz]
    clear hrest he0 hz;go_wp2_with (go_at_call 47; (with_reducible refine (op_May.calls k _ _ l0 e0 _ (HG.out.below HBW.out) (Kd.C_below HR0.out HBW.out) HC0.out HE.out).mono ?_); rintro e w1 ⟨rfl, hb⟩; have HB1 := Aside0.mk hb; have cb := (blk_cell (blk_below HBX.out hb) 0).trans (show _ = some (Value.slice none 0 0) from rfl); have fb := blk_frozen (blk_below HBX.out hb) 0; clear hb)
    have cz := (blk_cell (blk_put (blk_below HBX.out HB1.out) 0 (.slice none 0 0) rfl) 0).trans (show _ = some (Value.slice none 0 0) from rfl)
    try rw [Exit.noGoto_ret]
    refine ⟨.tuple #[.slice none 0 0, .int .i64 e0], by simp [results, Tryd.results15, Tryd.f15, go_sem, cz], _, rfl, Kd.R_nil _ _ _ _ _, (below_step HBW.out HB1.out).setCell (p := ⟨w.heap.size, 0, none⟩) (Nat.le_refl _) _⟩
  ·obtain ⟨e0, he0, hrest⟩ := Option.bind_eq_some_iff.1 (show (op_May.f k l0).bind _ = _ from H.out)
   obtain rfl : e0 = 0 := by rw [hm0] at he0; exact (Option.some.inj he0).symm
   rw [if_pos rfl] at hrest
   obtain ⟨e1, he1, hrest⟩ := Option.bind_eq_some_iff.1 hrest
   have cell1 : wr.cell? ⟨w.heap.size + 1, 1, none⟩ = some (.slice A1 l1.length c1) := (blk_cell HBL.out 1).trans rfl
   have HE0 := Aside0.mk he0;have HE := Aside0.mk he1;by_cases hz : e1 = 0
   ·subst hz
    clear hrest he1 he0 hm0;go_wp2_with (go_at_call 47; (with_reducible refine (op_May.calls k _ _ l1 0 _ (HG.out.below HBW.out) (Kd.C_below HR1.out HBW.out) HC1.out HE.out).mono ?_); rintro e w1 ⟨rfl, hb⟩; have HB1 := Aside0.mk hb; clear hb)
    go_roundg 0
    case measure => decide
    case rel => exact ⟨.inr (.inr ⟨rfl, rfl, HE0.out, HE.out⟩), ⟨below_step HBW.out HB1.out⟩, ⟨blk_below HBX.out HB1.out⟩, ⟨blk_below HBL.out HB1.out⟩⟩
   ·rw [if_neg hz] at hrest
    obtain ⟨rfl, rfl⟩ : [] = r1 ∧ e1 = r2 := by simpa using hrest
    have d1 : (e1 != 0) = true := by simp [hz]
    clear hrest he1 he0 hm0 hz;go_wp2_with (go_at_call 47; (with_reducible refine (op_May.calls k _ _ l1 e1 _ (HG.out.below HBW.out) (Kd.C_below HR1.out HBW.out) HC1.out HE.out).mono ?_); rintro e w1 ⟨rfl, hb⟩; have HB1 := Aside0.mk hb; have cb := (blk_cell (blk_below HBX.out hb) 0).trans (show _ = some (Value.slice none 0 0) from rfl); have fb := blk_frozen (blk_below HBX.out hb) 0; clear hb)
    have cz := (blk_cell (blk_put (blk_below HBX.out HB1.out) 0 (.slice none 0 0) rfl) 0).trans (show _ = some (Value.slice none 0 0) from rfl)
    try rw [Exit.noGoto_ret]
    refine ⟨.tuple #[.slice none 0 0, .int .i64 e1], by simp [results, Tryd.results15, Tryd.f15, go_sem, cz], _, rfl, Kd.R_nil _ _ _ _ _, (below_step HBW.out HB1.out).setCell (p := ⟨w.heap.size, 0, none⟩) (Nat.le_refl _) _⟩
  ·obtain ⟨e0, he0, hrest⟩ := Option.bind_eq_some_iff.1 (show (op_May.f k l0).bind _ = _ from H.out)
   obtain rfl : e0 = 0 := by rw [hm0] at he0; exact (Option.some.inj he0).symm
   rw [if_pos rfl] at hrest
   obtain ⟨e1, he1, hrest⟩ := Option.bind_eq_some_iff.1 hrest
   obtain rfl : e1 = 0 := by rw [hm1] at he1; exact (Option.some.inj he1).symm
   rw [if_pos rfl] at hrest
   obtain ⟨n, hn, hrest⟩ := Option.bind_eq_some_iff.1 hrest
   obtain ⟨m, hm, hrest⟩ := Option.bind_eq_some_iff.1 hrest
   have HN := Aside0.mk hn;have HMM := Aside0.mk hm;clear he0 he1 hm0 hm1 hn hm HBL;by_cases hz : n = m
   ·subst hz
    rw [if_pos rfl] at hrest
    obtain ⟨lx, hx, hrest⟩ := Option.bind_eq_some_iff.1 hrest
    obtain ⟨ly, hy, hrest⟩ := Option.bind_eq_some_iff.1 hrest
    obtain ⟨out, ho, hrest⟩ := Option.bind_eq_some_iff.1 hrest
    obtain ⟨r, hr, hrest⟩ := Option.bind_eq_some_iff.1 hrest
    obtain ⟨rfl, rfl⟩ : r = r1 ∧ 0 = r2 := by simpa using hrest
    have HX := Aside0.mk hx;have HY := Aside0.mk hy;have HO := Aside0.mk ho;have HRR := Aside0.mk hr;clear hx hy ho hr hrest;have hmf : ∀ (fn : Fn) (first cap : Array Value) (w : World), (Instr.makeFunc fn first cap).run Tryd.prog w = .ok (.func fn first cap) w := fun _ _ _ _ => rfl
    go_wp2_with (first | (go_at_call 45; (with_reducible refine (op_In.calls k _ _ l0 n _ (HG.out.below HBW.out) (Kd.C_below HR0.out HBW.out) HC0.out HN.out).mono ?_); rintro e w1 ⟨rfl, hb⟩; have HB1 := Aside0.mk (below_step HBW.out hb); have HX1 := Aside0.mk (blk_below HBX.out hb); clear hb) | (go_at_call 45; (with_reducible refine (op_In.calls k _ _ l1 n _ (HG.out.below HB1.out) (Kd.C_below HR1.out HB1.out) HC1.out HMM.out).mono ?_); rintro e w2 ⟨rfl, hb⟩; have HB2 := Aside0.mk (below_step HB1.out hb); have HX2 := Aside0.mk (blk_below HX1.out hb); clear hb) | (go_at_call 19; (with_reducible refine (normal_Of.calls k _ _ l0 lx _ (Kd.C_below HR0.out HB2.out) HC0.out HX.out).mono ?_); rintro e w3 ⟨vx, rfl, hvx, hb⟩; obtain ⟨glx, cx, Ax, rfl, lcx, lmx, rowx, hglx⟩ := row_own hvx; have HVX := Aside0.mk (And.intro lcx (And.intro lmx (And.intro rowx hglx))); have HB3 := Aside0.mk (below_step HB2.out hb); have HX3 := Aside0.mk (blk_below HX2.out hb); have HS3 := Aside0.mk hb.size; clear hb lcx lmx rowx hglx hvx) | (go_at_call 19; (with_reducible refine (normal_Of.calls k _ _ l1 ly _ (Kd.C_below HR1.out HB3.out) HC1.out HY.out).mono ?_); rintro e w4 ⟨vy, rfl, hvy, hb⟩; obtain ⟨gly, cy, Ay, rfl, lcy, lmy, rowy, hgly⟩ := row_own hvy; have HVY := Aside0.mk (And.intro lcy (And.intro lmy (And.intro rowy hgly))); have HB4 := Aside0.mk (below_step HB3.out hb); have HX4 := Aside0.mk (blk_below HX3.out hb); have HB34 := Aside0.mk hb; clear hb lcy lmy rowy hgly hvy))
    have ST0 : Aside0 (OvS w w4 w.heap.size glx gly cx cy Ax Ay lx ly [] (.slice none 0 0)) := ⟨by
     obtain ⟨x1, x2, x3, x4⟩ := HVX.out
     obtain ⟨y1, y2, y3, y4⟩ := HVY.out
     have z2 := HB2.out.size
     have z3 := HB3.out.size
     exact ⟨HB4.out, x3.keep (fun hp => HB34.out.block _ (x3.lt hp)), y3, fun hp => Nat.le_trans z2 (x4 hp), fun hp => Nat.le_trans z3 (y4 hp), x1, x2, y1, y2, fun hp hq e => by have := x3.lt hp; have := y4 hq; omega, HX4.out, Nat.le_refl _, Kd.R_nil _ _ _ _ _, fun _ e => by simp [Value.ownBlock] at e, fun _ e => by simp [Value.ownBlock] at e⟩⟩
    clear HVX HVY HX1 HX2 HX3 HX4 HB34 HS3 HB1 HB2 HB3 HX HY HN HMM HBX HBW H hmf HR0 HR1 HC0 HC1 HM;go_loopg [0, 1] k (fun kq v0 v1 w' => ∃ (glx gly cx cy : Nat) (A B : Option Addr) (x y o : List S26) (v : Value), v0 = .slice A x.length cx ∧ v1 = .slice B y.length cy ∧ Aside0 (OvS w w' w.heap.size glx gly cx cy A B x y o v) ∧ Aside0 (overL kq x y o = some out))
    case atStart => exact ⟨glx, gly, cx, cy, Ax, Ay, lx, ly, [], _, rfl, rfl, ST0, HO⟩
    case round =>
     clear ST0 HO HB4;obtain ⟨glx, gly, cx, cy, A, B, x, y, o, v, hv0, hv1, ST, HC⟩ := hrel
     have hc := HC.out;cases gk with
     | zero => simp [overL] at hc
     | succ kq =>
      obtain ⟨Av, cv, rfl⟩ := Kd.R_slice ST.out.o
      have cL := (blk_cell ST.out.c 0).trans (show _ = some (Value.slice Av o.length cv) from rfl)
      have fL := blk_frozen ST.out.c 0
      have HXM : Aside0 (cx ≤ 9223372036854775807 ∧ cy ≤ 9223372036854775807) := ⟨ST.out.xm, ST.out.ym⟩
      cases y with
      | nil =>
       cases x with
       | nil =>
        subst hv0 hv1
        have hoo : o = out := by simpa [overL] using hc
        subst hoo
        clear hc HC;go_wp2
        refine leaves_cons (f := 48) (args := #[.pointer (some ⟨w.heap.size, 0, none⟩)]) (by simp) (by simp [go_sem]) ?_
        refine (over_defer.calls k w.heap.size (.slice Av o.length cv) o r w _ (ST.out.b.setCell (p := ⟨w.heap.size, 0, none⟩) (Nat.le_refl _) _) (Nat.le_refl _) (blk_put ST.out.c 0 _ rfl) (Kd.R_set ST.out.o ST.out.c (by decide) 0 _) HRR.out).mono ?_
        rintro e u' w'' ⟨rfl, rfl, v1, hcell, hR, hb⟩
        exact ⟨.tuple #[v1, .int .i64 0], by simp [results, Tryd.results15, Tryd.f15, go_sem, hcell], _, rfl, hR, hb⟩
       | cons a x =>
        by_cases ha2 : a.f0 = 2
        ·have d2x : (a.f0 == 2) = true := by simp [ha2]
         obtain ⟨offx, curx, hBx, hbx, hcsx⟩ := ST.out.rx (by simp)
         obtain ⟨q0x, q1x, q2x⟩ := hcsx 0 a rfl
         have s0x := (blk_cell hbx offx).trans q0x
         have s1x := (blk_cell hbx (offx + 1)).trans q1x
         have s2x := (blk_cell hbx (offx + 2)).trans q2x
         have HBKx := Aside0.mk hbx;have QQx := Aside0.mk (And.intro q0x (And.intro q1x q2x))
         obtain ⟨nx, hnx⟩ : ∃ n, x.length = n := ⟨_, rfl⟩
         have HNx := Aside0.mk hnx;rw [List.length_cons, hnx] at hv0
         have d0x : decide ((0 : Int) < ((nx + 1 : Nat) : Int)) = true := decide_eq_true (by omega)
         clear q0x q1x q2x hcsx hbx hnx;subst hv0 hv1 hBx
         rw [overL, if_pos ha2] at hc
         split at hc
         ·next hlt =>
          have HC2 := Aside0.mk hc;have HLT := Aside0.mk hlt;clear hc hlt HC ha2;go_wp2
          have STD := Aside0.mk (ST.out.below (below_drew1 (Below.refl _ _)))
          refine wp_region_noPanic ?_
          refine start_ (n := 7) (S := fun w' => w'.cell? ⟨w.heap.size, 0, none⟩ = some (.slice Av o.length cv) ∧ w'.cell? ⟨glx, offx, none⟩ = some (.int .i64 a.f0) ∧ w'.cell? ⟨glx, offx + 1, none⟩ = some (.int .i64 a.f1) ∧ w'.cell? ⟨glx, offx + 2, none⟩ = some (.string a.f2)) (ds := [6]) #[false, false, false, false, false, false, false] (by kernel_rfl) rfl rfl ⟨((blk_cell STD.out.c 0).trans (show _ = some (Value.slice Av o.length cv) from rfl)), ((blk_cell (blk_drew HBKx.out) offx).trans QQx.out.1), ((blk_cell (blk_drew HBKx.out) (offx + 1)).trans QQx.out.2.1), ((blk_cell (blk_drew HBKx.out) (offx + 2)).trans QQx.out.2.2)⟩ (fun hHeld => ?_)
          refine pure_ (i := 1) (N := some 104) (v := ?_) (a' := ?_) #[false, true, false, false, false, false, false] rfl rfl (by kernel_rfl) (fun _ _ _ h => h) (Or.inl ⟨by rfl, ?_⟩) ?_ ?_
          rotate_left
          ·intro w'
           go_simp;with_reducible rfl
          rotate_left
          ·simp only [Act.put, List.setIfInBounds_toArray, List.set_cons_zero, List.set_cons_succ, i64_w, i32_w]
           rfl
          refine pure_ (i := 2) (N := some 105) (v := ?_) (a' := ?_) #[false, true, true, false, false, false, false] rfl rfl (by kernel_rfl) (fun _ _ _ h => h) (Or.inl ⟨by rfl, ?_⟩) ?_ ?_
          rotate_left
          ·intro w'
           go_simp;with_reducible rfl
          rotate_left
          ·simp only [Act.put, List.setIfInBounds_toArray, List.set_cons_zero, List.set_cons_succ, i64_w, i32_w]
           rfl
          refine take_ (i := 0) (N := some 103) (v := ?_) (a' := ?_) #[true, true, true, false, false, false, false] rfl rfl (by kernel_rfl) (fun _ _ _ h => h) (Or.inl ⟨by rfl, ?_⟩) hHeld ?_ ?_
          rotate_left
          ·rintro w' ⟨s0, s1, s2, s3⟩
           go_simp;with_reducible rfl
          rotate_left
          ·simp only [Act.put, List.setIfInBounds_toArray, List.set_cons_zero, List.set_cons_succ, i64_w, i32_w]
           rfl
          refine take_ (i := 3) (N := some 106) (v := ?_) (a' := ?_) #[true, true, true, true, false, false, false] rfl rfl (by kernel_rfl) (fun _ _ _ h => h) (Or.inl ⟨by rfl, ?_⟩) hHeld ?_ ?_
          rotate_left
          ·rintro w' ⟨s0, s1, s2, s3⟩
           go_simp;with_reducible rfl
          rotate_left
          ·simp only [Act.put, List.setIfInBounds_toArray, List.set_cons_zero, List.set_cons_succ, i64_w, i32_w]
           rfl
          refine one_ (i := 4) (N := some 107) #[true, true, true, true, true, false, false] rfl rfl (by kernel_rfl) (by decide) (fun K hK => ?_)
          refine value_ (w1 := ?_) (v := ?_) (by rfl) rfl ?_ ?_
          rotate_left 2
          ·go_simp;constructor
           ·rfl
           ·rfl
          refine hK.out _ _ ⟨((blk_cell (blk_alloc STD.out.c _) 0).trans (show _ = some (Value.slice Av o.length cv) from rfl)), ((blk_cell (blk_alloc (blk_drew HBKx.out) _) offx).trans QQx.out.1), ((blk_cell (blk_alloc (blk_drew HBKx.out) _) (offx + 1)).trans QQx.out.2.1), ((blk_cell (blk_alloc (blk_drew HBKx.out) _) (offx + 2)).trans QQx.out.2.2)⟩ (fun hHeld => ?_)
          clear hK K;refine norm_ (a' := ?_) ?_ ?_
          rotate_left
          ·show Act.put _ (some 107) _ = _
           simp only [Act.put, List.setIfInBounds_toArray, List.set_cons_zero, List.set_cons_succ, i64_w, i32_w]
           rfl
          refine one_ (i := 5) (N := some 108) #[true, true, true, true, true, true, false] rfl rfl (by kernel_rfl) (by decide) (fun K hK => ?_)
          refine Kd.R_append_step k26 (w0 := w) w.heap.size (by rfl) (.tmp 103) (.tmp 107) 27 26 (.agg #[.int .i64 0, .int .i64 0, .string ⟨#[]⟩]) 32 (by rfl) Tryd.underlying27 info26 rfl (by decide) (by omega) _ o a [.int .i64 a.f0, .int .i64 a.f1, .string a.f2] (fun _ => True) (fun _ => False) (by rfl) (by rfl) (k26_mkM _ _ _ a) (fun _ hk => hk.elim) (fun _ _ => trivial) STD.out.o STD.out.b STD.out.b.size (by have := HLT.out; omega) ?_
          intro v1 w5 ho1 hb1 hg1 hat1;have BX5 := Aside0.mk (OvS.box STD.out hg1)
          have cx5 := (blk_cell BX5.out 0).trans (show _ = some (Value.slice Av o.length cv) from rfl)
          have fx5 := blk_frozen BX5.out 0;have BR5 := (hg1.block glx (blk_lt (blk_drew HBKx.out)) (STD.out.nx (by simp))).trans (blk_drew HBKx.out)
          have STF := Aside0.mk (OvS.append STD.out ho1 hb1 hg1 hat1)
          obtain ⟨Aw, cw, rfl⟩ := Kd.R_slice ho1
          rw [List.length_append, List.length_singleton] at STF ⊢
          clear ho1 hb1 hg1 hat1;refine hK.out _ _ ⟨cx5, (blk_cell BR5 offx).trans QQx.out.1, (blk_cell BR5 (offx + 1)).trans QQx.out.2.1, (blk_cell BR5 (offx + 2)).trans QQx.out.2.2⟩ (fun hHeld => ?_)
          clear hK K;refine norm_ (a' := ?_) ?_ ?_
          rotate_left
          ·show Act.put _ (some 108) _ = _
           simp only [Act.put, List.setIfInBounds_toArray, List.set_cons_zero, List.set_cons_succ, i64_w, i32_w]
           rfl
          refine last_ (i := 6) (N := none) #[true, true, true, true, true, true, true] rfl rfl (by kernel_rfl) (by decide) (fun K hK => ?_)
          refine skip_ (w1 := ?_) (by rfl) rfl ?_ ?_
          rotate_left
          ·go_simp;rfl
          refine hK.out _ _ ?_
          clear hK K;refine done_ (by kernel_rfl) ?_
          refine NoPanic.normal ?_
          clear cL fL s0x s1x s2x;obtain ⟨i1, hi1, _, hsz1, _⟩ := info_parts info26
          have hcr := cut_from (P := Tryd.prog) 27 26 .i64 Tryd.underlying27 hi1 3 hsz1 (some ⟨glx, offx, none⟩) (nx + 1) cx 1 (by omega) (by omega)
          rw [show ((1 : Int).toNat) = 1 from rfl, show nx + 1 - 1 = nx from rfl] at hcr
          obtain ⟨A2, hA2⟩ : ∃ A2, (if cx = 1 then (some ⟨glx, offx, none⟩ : Option Addr) else (some ⟨glx, offx, none⟩ : Option Addr).map (·.add (1 * 3))) = A2 := ⟨_, rfl⟩
          rw [hA2] at hcr
          have HA2 := Aside0.mk hA2;clear hA2 hi1 hsz1;go_wp2
          go_roundg kq
          case measure => omega
          case rel => exact ⟨glx, gly, cx - 1, cy, A2, _, x, [], _, _, by rw [HNx.out], rfl, ⟨STF.out.tail HA2.out⟩, HC2⟩
         ·cases hc
        ·rw [overL, if_neg ha2] at hc
         cases hc
      | cons s y =>
       obtain ⟨offy, cury, hBy, hby, hcsy⟩ := ST.out.ry (by simp)
       obtain ⟨q0y, q1y, q2y⟩ := hcsy 0 s rfl
       have s0y := (blk_cell hby offy).trans q0y
       have s1y := (blk_cell hby (offy + 1)).trans q1y
       have s2y := (blk_cell hby (offy + 2)).trans q2y
       have HBKy := Aside0.mk hby;have QQy := Aside0.mk (And.intro q0y (And.intro q1y q2y))
       obtain ⟨ny, hny⟩ : ∃ n, y.length = n := ⟨_, rfl⟩
       have HNy := Aside0.mk hny;rw [List.length_cons, hny] at hv1
       have d0y : decide ((0 : Int) < ((ny + 1 : Nat) : Int)) = true := decide_eq_true (by omega)
       clear q0y q1y q2y hcsy hby hny;by_cases hs2 : s.f0 = 2
       ·have d2y : (s.f0 == 2) = true := by simp [hs2]
        cases x with
        | nil =>
         subst hv0 hv1 hBy
         rw [overL, if_pos hs2] at hc
         obtain ⟨oo, hoo, hc⟩ := Option.bind_eq_some_iff.1 hc
         split at hc
         ·next hlt =>
          have HOO := Aside0.mk hoo;have HC2 := Aside0.mk hc;have HLT := Aside0.mk hlt;clear hoo hc hlt HC hs2;go_wp2
          have STD := Aside0.mk (ST.out.below (below_drew1 (Below.refl _ _)))
          refine wp_region_noPanic ?_
          refine start_ (n := 9) (S := fun w' => w'.cell? ⟨w.heap.size, 0, none⟩ = some (.slice Av o.length cv) ∧ w'.cell? ⟨gly, offy, none⟩ = some (.int .i64 s.f0) ∧ w'.cell? ⟨gly, offy + 1, none⟩ = some (.int .i64 s.f1) ∧ w'.cell? ⟨gly, offy + 2, none⟩ = some (.string s.f2)) (ds := [8]) #[false, false, false, false, false, false, false, false, false] (by kernel_rfl) rfl rfl ⟨((blk_cell STD.out.c 0).trans (show _ = some (Value.slice Av o.length cv) from rfl)), ((blk_cell (blk_drew HBKy.out) offy).trans QQy.out.1), ((blk_cell (blk_drew HBKy.out) (offy + 1)).trans QQy.out.2.1), ((blk_cell (blk_drew HBKy.out) (offy + 2)).trans QQy.out.2.2)⟩ (fun hHeld => ?_)
          refine pure_ (i := 1) (N := some 83) (v := ?_) (a' := ?_) #[false, true, false, false, false, false, false, false, false] rfl rfl (by kernel_rfl) (fun _ _ _ h => h) (Or.inl ⟨by rfl, ?_⟩) ?_ ?_
          rotate_left
          ·intro w'
           go_simp;with_reducible rfl
          rotate_left
          ·simp only [Act.put, List.setIfInBounds_toArray, List.set_cons_zero, List.set_cons_succ, i64_w, i32_w]
           rfl
          refine pure_ (i := 2) (N := some 84) (v := ?_) (a' := ?_) #[false, true, true, false, false, false, false, false, false] rfl rfl (by kernel_rfl) (fun _ _ _ h => h) (Or.inl ⟨by rfl, ?_⟩) ?_ ?_
          rotate_left
          ·intro w'
           go_simp;with_reducible rfl
          rotate_left
          ·simp only [Act.put, List.setIfInBounds_toArray, List.set_cons_zero, List.set_cons_succ, i64_w, i32_w]
           rfl
          refine take_ (i := 0) (N := some 82) (v := ?_) (a' := ?_) #[true, true, true, false, false, false, false, false, false] rfl rfl (by kernel_rfl) (fun _ _ _ h => h) (Or.inl ⟨by rfl, ?_⟩) hHeld ?_ ?_
          rotate_left
          ·rintro w' ⟨s0, s1, s2, s3⟩
           go_simp;with_reducible rfl
          rotate_left
          ·simp only [Act.put, List.setIfInBounds_toArray, List.set_cons_zero, List.set_cons_succ, i64_w, i32_w]
           rfl
          refine take_ (i := 3) (N := some 85) (v := ?_) (a' := ?_) #[true, true, true, true, false, false, false, false, false] rfl rfl (by kernel_rfl) (fun _ _ _ h => h) (Or.inl ⟨by rfl, ?_⟩) hHeld ?_ ?_
          rotate_left
          ·rintro w' ⟨s0, s1, s2, s3⟩
           go_simp;with_reducible rfl
          rotate_left
          ·simp only [Act.put, List.setIfInBounds_toArray, List.set_cons_zero, List.set_cons_succ, i64_w, i32_w]
           rfl
          refine one_ (i := 4) (N := some 86) #[true, true, true, true, true, false, false, false, false] rfl rfl (by kernel_rfl) (by decide) (fun K hK => ?_)
          refine goes_ Tryd.func49 (by kernel_rfl) rfl #[.agg #[.int .i64 s.f0, .int .i64 s.f1, .string s.f2]] (by rfl) rfl rfl (by simp only [List.map_toArray, List.map_cons, List.map_nil]; rfl) ?_
          with_reducible refine (span_Out.calls _ _ _ _ _ (HG.out.below STD.out.b) HOO.out).mono ?_
          rintro e w1 ⟨rfl, hb⟩
          refine ⟨_, rfl, ?_⟩
          have ST1 := Aside0.mk (STD.out.below hb)
          have HK1 := Aside0.mk (blk_below (blk_drew HBKy.out) hb)
          clear hb;refine hK.out _ _ ⟨((blk_cell ST1.out.c 0).trans (show _ = some (Value.slice Av o.length cv) from rfl)), ((blk_cell HK1.out offy).trans QQy.out.1), ((blk_cell HK1.out (offy + 1)).trans QQy.out.2.1), ((blk_cell HK1.out (offy + 2)).trans QQy.out.2.2)⟩ (fun hHeld => ?_)
          clear hK K;refine norm_ (a' := ?_) ?_ ?_
          rotate_left
          ·show Act.put _ (some 86) _ = _
           simp only [Act.put, List.setIfInBounds_toArray, List.set_cons_zero, List.set_cons_succ, i64_w, i32_w]
           rfl
          refine pure_ (i := 5) (N := some 87) (v := ?_) (a' := ?_) #[true, true, true, true, true, true, false, false, false] rfl rfl (by kernel_rfl) (fun _ _ _ h => h) (Or.inl ⟨by rfl, ?_⟩) ?_ ?_
          rotate_left
          ·intro w'
           go_simp;with_reducible rfl
          rotate_left
          ·simp only [Act.put, List.setIfInBounds_toArray, List.set_cons_zero, List.set_cons_succ, i64_w, i32_w]
           rfl
          refine one_ (i := 6) (N := some 88) #[true, true, true, true, true, true, true, false, false] rfl rfl (by kernel_rfl) (by decide) (fun K hK => ?_)
          refine value_ (w1 := ?_) (v := ?_) (by rfl) rfl ?_ ?_
          rotate_left 2
          ·go_simp;constructor
           ·rfl
           ·rfl
          refine hK.out _ _ ⟨((blk_cell (blk_alloc ST1.out.c _) 0).trans (show _ = some (Value.slice Av o.length cv) from rfl)), ((blk_cell (blk_alloc HK1.out _) offy).trans QQy.out.1), ((blk_cell (blk_alloc HK1.out _) (offy + 1)).trans QQy.out.2.1), ((blk_cell (blk_alloc HK1.out _) (offy + 2)).trans QQy.out.2.2)⟩ (fun hHeld => ?_)
          clear hK K;refine norm_ (a' := ?_) ?_ ?_
          rotate_left
          ·show Act.put _ (some 88) _ = _
           simp only [Act.put, List.setIfInBounds_toArray, List.set_cons_zero, List.set_cons_succ, i64_w, i32_w]
           rfl
          refine one_ (i := 7) (N := some 89) #[true, true, true, true, true, true, true, true, false] rfl rfl (by kernel_rfl) (by decide) (fun K hK => ?_)
          refine Kd.R_append_step k26 (w0 := w) w.heap.size (by rfl) (.tmp 82) (.tmp 88) 27 26 (.agg #[.int .i64 0, .int .i64 0, .string ⟨#[]⟩]) 32 (by rfl) Tryd.underlying27 info26 rfl (by decide) (by omega) _ o (⟨1, oo, ⟨#[]⟩⟩ : S26) [.int .i64 1, .int .i64 oo, .string ⟨#[]⟩] (fun _ => True) (fun _ => False) (by rfl) (by rfl) (k26_mkM _ _ _ (⟨1, oo, ⟨#[]⟩⟩ : S26)) (fun _ hk => hk.elim) (fun _ _ => trivial) ST1.out.o ST1.out.b ST1.out.b.size (by have := HLT.out; omega) ?_
          intro v1 w5 ho1 hb1 hg1 hat1;have BX5 := Aside0.mk (OvS.box ST1.out hg1)
          have cx5 := (blk_cell BX5.out 0).trans (show _ = some (Value.slice Av o.length cv) from rfl)
          have fx5 := blk_frozen BX5.out 0;have BR5 := (hg1.block gly (blk_lt HK1.out) (ST1.out.ny (by simp))).trans HK1.out
          have STF := Aside0.mk (OvS.append ST1.out ho1 hb1 hg1 hat1)
          obtain ⟨Aw, cw, rfl⟩ := Kd.R_slice ho1
          rw [List.length_append, List.length_singleton] at STF ⊢
          clear ho1 hb1 hg1 hat1;refine hK.out _ _ ⟨cx5, (blk_cell BR5 offy).trans QQy.out.1, (blk_cell BR5 (offy + 1)).trans QQy.out.2.1, (blk_cell BR5 (offy + 2)).trans QQy.out.2.2⟩ (fun hHeld => ?_)
          clear hK K;refine norm_ (a' := ?_) ?_ ?_
          rotate_left
          ·show Act.put _ (some 89) _ = _
           simp only [Act.put, List.setIfInBounds_toArray, List.set_cons_zero, List.set_cons_succ, i64_w, i32_w]
           rfl
          refine last_ (i := 8) (N := none) #[true, true, true, true, true, true, true, true, true] rfl rfl (by kernel_rfl) (by decide) (fun K hK => ?_)
          refine skip_ (w1 := ?_) (by rfl) rfl ?_ ?_
          rotate_left
          ·go_simp;rfl
          refine hK.out _ _ ?_
          clear hK K;refine done_ (by kernel_rfl) ?_
          refine NoPanic.normal ?_
          clear cL fL s0y s1y s2y;obtain ⟨i1, hi1, _, hsz1, _⟩ := info_parts info26
          have hcr := cut_from (P := Tryd.prog) 27 26 .i64 Tryd.underlying27 hi1 3 hsz1 (some ⟨gly, offy, none⟩) (ny + 1) cy 1 (by omega) (by omega)
          rw [show ((1 : Int).toNat) = 1 from rfl, show ny + 1 - 1 = ny from rfl] at hcr
          obtain ⟨A2, hA2⟩ : ∃ A2, (if cy = 1 then (some ⟨gly, offy, none⟩ : Option Addr) else (some ⟨gly, offy, none⟩ : Option Addr).map (·.add (1 * 3))) = A2 := ⟨_, rfl⟩
          rw [hA2] at hcr
          have HA2 := Aside0.mk hA2;clear hA2 hi1 hsz1;go_wp2
          go_roundg kq
          case measure => omega
          case rel => exact ⟨glx, gly, cx, cy - 1, A, A2, [], y, _, _, rfl, by rw [HNy.out], ⟨(STF.out.swap.tail HA2.out).swap⟩, HC2⟩
         ·cases hc
        | cons a x =>
         obtain ⟨nx, hnx⟩ : ∃ n, x.length = n := ⟨_, rfl⟩
         have HNX := Aside0.mk hnx;rw [List.length_cons, hnx] at hv0
         have d0x : decide ((0 : Int) < ((nx + 1 : Nat) : Int)) = true := decide_eq_true (by omega)
         clear hnx;subst hv0 hv1 hBy
         rw [overL, if_pos hs2] at hc
         obtain ⟨oo, hoo, hc⟩ := Option.bind_eq_some_iff.1 hc
         split at hc
         ·next hlt =>
          have HOO := Aside0.mk hoo;have HC2 := Aside0.mk hc;have HLT := Aside0.mk hlt;clear hoo hc hlt HC hs2;go_wp2
          have STD := Aside0.mk (ST.out.below (below_drew1 (Below.refl _ _)))
          refine wp_region_noPanic ?_
          refine start_ (n := 9) (S := fun w' => w'.cell? ⟨w.heap.size, 0, none⟩ = some (.slice Av o.length cv) ∧ w'.cell? ⟨gly, offy, none⟩ = some (.int .i64 s.f0) ∧ w'.cell? ⟨gly, offy + 1, none⟩ = some (.int .i64 s.f1) ∧ w'.cell? ⟨gly, offy + 2, none⟩ = some (.string s.f2)) (ds := [8]) #[false, false, false, false, false, false, false, false, false] (by kernel_rfl) rfl rfl ⟨((blk_cell STD.out.c 0).trans (show _ = some (Value.slice Av o.length cv) from rfl)), ((blk_cell (blk_drew HBKy.out) offy).trans QQy.out.1), ((blk_cell (blk_drew HBKy.out) (offy + 1)).trans QQy.out.2.1), ((blk_cell (blk_drew HBKy.out) (offy + 2)).trans QQy.out.2.2)⟩ (fun hHeld => ?_)
          refine pure_ (i := 1) (N := some 83) (v := ?_) (a' := ?_) #[false, true, false, false, false, false, false, false, false] rfl rfl (by kernel_rfl) (fun _ _ _ h => h) (Or.inl ⟨by rfl, ?_⟩) ?_ ?_
          rotate_left
          ·intro w'
           go_simp;with_reducible rfl
          rotate_left
          ·simp only [Act.put, List.setIfInBounds_toArray, List.set_cons_zero, List.set_cons_succ, i64_w, i32_w]
           rfl
          refine pure_ (i := 2) (N := some 84) (v := ?_) (a' := ?_) #[false, true, true, false, false, false, false, false, false] rfl rfl (by kernel_rfl) (fun _ _ _ h => h) (Or.inl ⟨by rfl, ?_⟩) ?_ ?_
          rotate_left
          ·intro w'
           go_simp;with_reducible rfl
          rotate_left
          ·simp only [Act.put, List.setIfInBounds_toArray, List.set_cons_zero, List.set_cons_succ, i64_w, i32_w]
           rfl
          refine take_ (i := 0) (N := some 82) (v := ?_) (a' := ?_) #[true, true, true, false, false, false, false, false, false] rfl rfl (by kernel_rfl) (fun _ _ _ h => h) (Or.inl ⟨by rfl, ?_⟩) hHeld ?_ ?_
          rotate_left
          ·rintro w' ⟨s0, s1, s2, s3⟩
           go_simp;with_reducible rfl
          rotate_left
          ·simp only [Act.put, List.setIfInBounds_toArray, List.set_cons_zero, List.set_cons_succ, i64_w, i32_w]
           rfl
          refine take_ (i := 3) (N := some 85) (v := ?_) (a' := ?_) #[true, true, true, true, false, false, false, false, false] rfl rfl (by kernel_rfl) (fun _ _ _ h => h) (Or.inl ⟨by rfl, ?_⟩) hHeld ?_ ?_
          rotate_left
          ·rintro w' ⟨s0, s1, s2, s3⟩
           go_simp;with_reducible rfl
          rotate_left
          ·simp only [Act.put, List.setIfInBounds_toArray, List.set_cons_zero, List.set_cons_succ, i64_w, i32_w]
           rfl
          refine one_ (i := 4) (N := some 86) #[true, true, true, true, true, false, false, false, false] rfl rfl (by kernel_rfl) (by decide) (fun K hK => ?_)
          refine goes_ Tryd.func49 (by kernel_rfl) rfl #[.agg #[.int .i64 s.f0, .int .i64 s.f1, .string s.f2]] (by rfl) rfl rfl (by simp only [List.map_toArray, List.map_cons, List.map_nil]; rfl) ?_
          with_reducible refine (span_Out.calls _ _ _ _ _ (HG.out.below STD.out.b) HOO.out).mono ?_
          rintro e w1 ⟨rfl, hb⟩
          refine ⟨_, rfl, ?_⟩
          have ST1 := Aside0.mk (STD.out.below hb)
          have HK1 := Aside0.mk (blk_below (blk_drew HBKy.out) hb)
          clear hb;refine hK.out _ _ ⟨((blk_cell ST1.out.c 0).trans (show _ = some (Value.slice Av o.length cv) from rfl)), ((blk_cell HK1.out offy).trans QQy.out.1), ((blk_cell HK1.out (offy + 1)).trans QQy.out.2.1), ((blk_cell HK1.out (offy + 2)).trans QQy.out.2.2)⟩ (fun hHeld => ?_)
          clear hK K;refine norm_ (a' := ?_) ?_ ?_
          rotate_left
          ·show Act.put _ (some 86) _ = _
           simp only [Act.put, List.setIfInBounds_toArray, List.set_cons_zero, List.set_cons_succ, i64_w, i32_w]
           rfl
          refine pure_ (i := 5) (N := some 87) (v := ?_) (a' := ?_) #[true, true, true, true, true, true, false, false, false] rfl rfl (by kernel_rfl) (fun _ _ _ h => h) (Or.inl ⟨by rfl, ?_⟩) ?_ ?_
          rotate_left
          ·intro w'
           go_simp;with_reducible rfl
          rotate_left
          ·simp only [Act.put, List.setIfInBounds_toArray, List.set_cons_zero, List.set_cons_succ, i64_w, i32_w]
           rfl
          refine one_ (i := 6) (N := some 88) #[true, true, true, true, true, true, true, false, false] rfl rfl (by kernel_rfl) (by decide) (fun K hK => ?_)
          refine value_ (w1 := ?_) (v := ?_) (by rfl) rfl ?_ ?_
          rotate_left 2
          ·go_simp;constructor
           ·rfl
           ·rfl
          refine hK.out _ _ ⟨((blk_cell (blk_alloc ST1.out.c _) 0).trans (show _ = some (Value.slice Av o.length cv) from rfl)), ((blk_cell (blk_alloc HK1.out _) offy).trans QQy.out.1), ((blk_cell (blk_alloc HK1.out _) (offy + 1)).trans QQy.out.2.1), ((blk_cell (blk_alloc HK1.out _) (offy + 2)).trans QQy.out.2.2)⟩ (fun hHeld => ?_)
          clear hK K;refine norm_ (a' := ?_) ?_ ?_
          rotate_left
          ·show Act.put _ (some 88) _ = _
           simp only [Act.put, List.setIfInBounds_toArray, List.set_cons_zero, List.set_cons_succ, i64_w, i32_w]
           rfl
          refine one_ (i := 7) (N := some 89) #[true, true, true, true, true, true, true, true, false] rfl rfl (by kernel_rfl) (by decide) (fun K hK => ?_)
          refine Kd.R_append_step k26 (w0 := w) w.heap.size (by rfl) (.tmp 82) (.tmp 88) 27 26 (.agg #[.int .i64 0, .int .i64 0, .string ⟨#[]⟩]) 32 (by rfl) Tryd.underlying27 info26 rfl (by decide) (by omega) _ o (⟨1, oo, ⟨#[]⟩⟩ : S26) [.int .i64 1, .int .i64 oo, .string ⟨#[]⟩] (fun _ => True) (fun _ => False) (by rfl) (by rfl) (k26_mkM _ _ _ (⟨1, oo, ⟨#[]⟩⟩ : S26)) (fun _ hk => hk.elim) (fun _ _ => trivial) ST1.out.o ST1.out.b ST1.out.b.size (by have := HLT.out; omega) ?_
          intro v1 w5 ho1 hb1 hg1 hat1;have BX5 := Aside0.mk (OvS.box ST1.out hg1)
          have cx5 := (blk_cell BX5.out 0).trans (show _ = some (Value.slice Av o.length cv) from rfl)
          have fx5 := blk_frozen BX5.out 0;have BR5 := (hg1.block gly (blk_lt HK1.out) (ST1.out.ny (by simp))).trans HK1.out
          have STF := Aside0.mk (OvS.append ST1.out ho1 hb1 hg1 hat1)
          obtain ⟨Aw, cw, rfl⟩ := Kd.R_slice ho1
          rw [List.length_append, List.length_singleton] at STF ⊢
          clear ho1 hb1 hg1 hat1;refine hK.out _ _ ⟨cx5, (blk_cell BR5 offy).trans QQy.out.1, (blk_cell BR5 (offy + 1)).trans QQy.out.2.1, (blk_cell BR5 (offy + 2)).trans QQy.out.2.2⟩ (fun hHeld => ?_)
          clear hK K;refine norm_ (a' := ?_) ?_ ?_
          rotate_left
          ·show Act.put _ (some 89) _ = _
           simp only [Act.put, List.setIfInBounds_toArray, List.set_cons_zero, List.set_cons_succ, i64_w, i32_w]
           rfl
          refine last_ (i := 8) (N := none) #[true, true, true, true, true, true, true, true, true] rfl rfl (by kernel_rfl) (by decide) (fun K hK => ?_)
          refine skip_ (w1 := ?_) (by rfl) rfl ?_ ?_
          rotate_left
          ·go_simp;rfl
          refine hK.out _ _ ?_
          clear hK K;refine done_ (by kernel_rfl) ?_
          refine NoPanic.normal ?_
          clear cL fL s0y s1y s2y;obtain ⟨i1, hi1, _, hsz1, _⟩ := info_parts info26
          have hcr := cut_from (P := Tryd.prog) 27 26 .i64 Tryd.underlying27 hi1 3 hsz1 (some ⟨gly, offy, none⟩) (ny + 1) cy 1 (by omega) (by omega)
          rw [show ((1 : Int).toNat) = 1 from rfl, show ny + 1 - 1 = ny from rfl] at hcr
          obtain ⟨A2, hA2⟩ : ∃ A2, (if cy = 1 then (some ⟨gly, offy, none⟩ : Option Addr) else (some ⟨gly, offy, none⟩ : Option Addr).map (·.add (1 * 3))) = A2 := ⟨_, rfl⟩
          rw [hA2] at hcr
          have HA2 := Aside0.mk hA2;clear hA2 hi1 hsz1;go_wp2
          go_roundg kq
          case measure => omega
          case rel => exact ⟨glx, gly, cx, cy - 1, A, A2, (a :: x), y, _, _, by rw [List.length_cons, HNX.out], by rw [HNy.out], ⟨(STF.out.swap.tail HA2.out).swap⟩, HC2⟩
         ·cases hc
       ·have d2y : (s.f0 == 2) = false := by simp [hs2]
        cases x with
        | nil =>
         rw [overL, if_neg hs2] at hc
         cases hc
        | cons a x =>
         obtain ⟨offx, curx, hBx, hbx, hcsx⟩ := ST.out.rx (by simp)
         obtain ⟨q0x, q1x, q2x⟩ := hcsx 0 a rfl
         have s0x := (blk_cell hbx offx).trans q0x
         have s1x := (blk_cell hbx (offx + 1)).trans q1x
         have s2x := (blk_cell hbx (offx + 2)).trans q2x
         have HBKx := Aside0.mk hbx;have QQx := Aside0.mk (And.intro q0x (And.intro q1x q2x))
         obtain ⟨nx, hnx⟩ : ∃ n, x.length = n := ⟨_, rfl⟩
         have HNx := Aside0.mk hnx;rw [List.length_cons, hnx] at hv0
         have d0x : decide ((0 : Int) < ((nx + 1 : Nat) : Int)) = true := decide_eq_true (by omega)
         clear q0x q1x q2x hcsx hbx hnx;by_cases ha2 : a.f0 = 2
         ·have d2x : (a.f0 == 2) = true := by simp [ha2]
          subst hv0 hv1 hBx hBy
          rw [overL, if_neg hs2, if_pos ha2] at hc
          split at hc
          ·next hlt =>
           have HC2 := Aside0.mk hc;have HLT := Aside0.mk hlt;clear hc hlt HC ha2;go_wp2
           have STD := Aside0.mk (ST.out.below (below_drew1 (Below.refl _ _)))
           refine wp_region_noPanic ?_
           refine start_ (n := 7) (S := fun w' => w'.cell? ⟨w.heap.size, 0, none⟩ = some (.slice Av o.length cv) ∧ w'.cell? ⟨glx, offx, none⟩ = some (.int .i64 a.f0) ∧ w'.cell? ⟨glx, offx + 1, none⟩ = some (.int .i64 a.f1) ∧ w'.cell? ⟨glx, offx + 2, none⟩ = some (.string a.f2)) (ds := [6]) #[false, false, false, false, false, false, false] (by kernel_rfl) rfl rfl ⟨((blk_cell STD.out.c 0).trans (show _ = some (Value.slice Av o.length cv) from rfl)), ((blk_cell (blk_drew HBKx.out) offx).trans QQx.out.1), ((blk_cell (blk_drew HBKx.out) (offx + 1)).trans QQx.out.2.1), ((blk_cell (blk_drew HBKx.out) (offx + 2)).trans QQx.out.2.2)⟩ (fun hHeld => ?_)
           refine pure_ (i := 1) (N := some 104) (v := ?_) (a' := ?_) #[false, true, false, false, false, false, false] rfl rfl (by kernel_rfl) (fun _ _ _ h => h) (Or.inl ⟨by rfl, ?_⟩) ?_ ?_
           rotate_left
           ·intro w'
            go_simp;with_reducible rfl
           rotate_left
           ·simp only [Act.put, List.setIfInBounds_toArray, List.set_cons_zero, List.set_cons_succ, i64_w, i32_w]
            rfl
           refine pure_ (i := 2) (N := some 105) (v := ?_) (a' := ?_) #[false, true, true, false, false, false, false] rfl rfl (by kernel_rfl) (fun _ _ _ h => h) (Or.inl ⟨by rfl, ?_⟩) ?_ ?_
           rotate_left
           ·intro w'
            go_simp;with_reducible rfl
           rotate_left
           ·simp only [Act.put, List.setIfInBounds_toArray, List.set_cons_zero, List.set_cons_succ, i64_w, i32_w]
            rfl
           refine take_ (i := 0) (N := some 103) (v := ?_) (a' := ?_) #[true, true, true, false, false, false, false] rfl rfl (by kernel_rfl) (fun _ _ _ h => h) (Or.inl ⟨by rfl, ?_⟩) hHeld ?_ ?_
           rotate_left
           ·rintro w' ⟨s0, s1, s2, s3⟩
            go_simp;with_reducible rfl
           rotate_left
           ·simp only [Act.put, List.setIfInBounds_toArray, List.set_cons_zero, List.set_cons_succ, i64_w, i32_w]
            rfl
           refine take_ (i := 3) (N := some 106) (v := ?_) (a' := ?_) #[true, true, true, true, false, false, false] rfl rfl (by kernel_rfl) (fun _ _ _ h => h) (Or.inl ⟨by rfl, ?_⟩) hHeld ?_ ?_
           rotate_left
           ·rintro w' ⟨s0, s1, s2, s3⟩
            go_simp;with_reducible rfl
           rotate_left
           ·simp only [Act.put, List.setIfInBounds_toArray, List.set_cons_zero, List.set_cons_succ, i64_w, i32_w]
            rfl
           refine one_ (i := 4) (N := some 107) #[true, true, true, true, true, false, false] rfl rfl (by kernel_rfl) (by decide) (fun K hK => ?_)
           refine value_ (w1 := ?_) (v := ?_) (by rfl) rfl ?_ ?_
           rotate_left 2
           ·go_simp;constructor
            ·rfl
            ·rfl
           refine hK.out _ _ ⟨((blk_cell (blk_alloc STD.out.c _) 0).trans (show _ = some (Value.slice Av o.length cv) from rfl)), ((blk_cell (blk_alloc (blk_drew HBKx.out) _) offx).trans QQx.out.1), ((blk_cell (blk_alloc (blk_drew HBKx.out) _) (offx + 1)).trans QQx.out.2.1), ((blk_cell (blk_alloc (blk_drew HBKx.out) _) (offx + 2)).trans QQx.out.2.2)⟩ (fun hHeld => ?_)
           clear hK K;refine norm_ (a' := ?_) ?_ ?_
           rotate_left
           ·show Act.put _ (some 107) _ = _
            simp only [Act.put, List.setIfInBounds_toArray, List.set_cons_zero, List.set_cons_succ, i64_w, i32_w]
            rfl
           refine one_ (i := 5) (N := some 108) #[true, true, true, true, true, true, false] rfl rfl (by kernel_rfl) (by decide) (fun K hK => ?_)
           refine Kd.R_append_step k26 (w0 := w) w.heap.size (by rfl) (.tmp 103) (.tmp 107) 27 26 (.agg #[.int .i64 0, .int .i64 0, .string ⟨#[]⟩]) 32 (by rfl) Tryd.underlying27 info26 rfl (by decide) (by omega) _ o a [.int .i64 a.f0, .int .i64 a.f1, .string a.f2] (fun _ => True) (fun _ => False) (by rfl) (by rfl) (k26_mkM _ _ _ a) (fun _ hk => hk.elim) (fun _ _ => trivial) STD.out.o STD.out.b STD.out.b.size (by have := HLT.out; omega) ?_
           intro v1 w5 ho1 hb1 hg1 hat1;have BX5 := Aside0.mk (OvS.box STD.out hg1)
           have cx5 := (blk_cell BX5.out 0).trans (show _ = some (Value.slice Av o.length cv) from rfl)
           have fx5 := blk_frozen BX5.out 0;have BR5 := (hg1.block glx (blk_lt (blk_drew HBKx.out)) (STD.out.nx (by simp))).trans (blk_drew HBKx.out)
           have STF := Aside0.mk (OvS.append STD.out ho1 hb1 hg1 hat1)
           obtain ⟨Aw, cw, rfl⟩ := Kd.R_slice ho1
           rw [List.length_append, List.length_singleton] at STF ⊢
           clear ho1 hb1 hg1 hat1;refine hK.out _ _ ⟨cx5, (blk_cell BR5 offx).trans QQx.out.1, (blk_cell BR5 (offx + 1)).trans QQx.out.2.1, (blk_cell BR5 (offx + 2)).trans QQx.out.2.2⟩ (fun hHeld => ?_)
           clear hK K;refine norm_ (a' := ?_) ?_ ?_
           rotate_left
           ·show Act.put _ (some 108) _ = _
            simp only [Act.put, List.setIfInBounds_toArray, List.set_cons_zero, List.set_cons_succ, i64_w, i32_w]
            rfl
           refine last_ (i := 6) (N := none) #[true, true, true, true, true, true, true] rfl rfl (by kernel_rfl) (by decide) (fun K hK => ?_)
           refine skip_ (w1 := ?_) (by rfl) rfl ?_ ?_
           rotate_left
           ·go_simp;rfl
           refine hK.out _ _ ?_
           clear hK K;refine done_ (by kernel_rfl) ?_
           refine NoPanic.normal ?_
           clear cL fL s0x s1x s2x;obtain ⟨i1, hi1, _, hsz1, _⟩ := info_parts info26
           have hcr := cut_from (P := Tryd.prog) 27 26 .i64 Tryd.underlying27 hi1 3 hsz1 (some ⟨glx, offx, none⟩) (nx + 1) cx 1 (by omega) (by omega)
           rw [show ((1 : Int).toNat) = 1 from rfl, show nx + 1 - 1 = nx from rfl] at hcr
           obtain ⟨A2, hA2⟩ : ∃ A2, (if cx = 1 then (some ⟨glx, offx, none⟩ : Option Addr) else (some ⟨glx, offx, none⟩ : Option Addr).map (·.add (1 * 3))) = A2 := ⟨_, rfl⟩
           rw [hA2] at hcr
           have HA2 := Aside0.mk hA2;clear hA2 hi1 hsz1;go_wp2
           go_roundg kq
           case measure => omega
           case rel => exact ⟨glx, gly, cx - 1, cy, A2, _, x, (s :: y), _, _, by rw [HNx.out], by rw [List.length_cons, HNy.out], ⟨STF.out.tail HA2.out⟩, HC2⟩
          ·cases hc
         ·have d2x : (a.f0 == 2) = false := by simp [ha2]
          by_cases hs1 : s.f0 = 1
          ·have d1y : (s.f0 == 1) = true := by simp [hs1]
           subst hv0 hv1 hBx hBy
           rw [overL, if_neg hs2, if_neg ha2] at hc
           simp only [mn_min] at hc
           rw [if_pos hs1] at hc
           split at hc
           ·next hlt =>
            have HC2 := Aside0.mk hc;have HLT := Aside0.mk hlt;clear hc hlt HC ha2 hs2 hs1;go_wp2
            refine wp_region_noPanic ?_
            refine start_ (n := 10) (S := fun w' => w'.cell? ⟨glx, offx + 1, none⟩ = some (.int .i64 a.f1) ∧ w'.cell? ⟨gly, offy + 1, none⟩ = some (.int .i64 s.f1)) (ds := []) #[false, false, false, false, false, false, false, false, false, false] (by kernel_rfl) rfl rfl ⟨((blk_cell (blk_drew HBKx.out) (offx + 1)).trans QQx.out.2.1), ((blk_cell (blk_drew HBKy.out) (offy + 1)).trans QQy.out.2.1)⟩ (fun hHeld => ?_)
            refine pure_ (i := 0) (N := some 42) (v := ?_) (a' := ?_) #[true, false, false, false, false, false, false, false, false, false] rfl rfl (by kernel_rfl) (fun _ _ _ h => h) (Or.inl ⟨by rfl, ?_⟩) ?_ ?_
            rotate_left
            ·intro w'
             go_simp;with_reducible rfl
            rotate_left
            ·simp only [Act.put, List.setIfInBounds_toArray, List.set_cons_zero, List.set_cons_succ, i64_w, i32_w]
             rfl
            refine pure_ (i := 1) (N := some 43) (v := ?_) (a' := ?_) #[true, true, false, false, false, false, false, false, false, false] rfl rfl (by kernel_rfl) (fun _ _ _ h => h) (Or.inl ⟨by rfl, ?_⟩) ?_ ?_
            rotate_left
            ·intro w'
             go_simp;with_reducible rfl
            rotate_left
            ·simp only [Act.put, List.setIfInBounds_toArray, List.set_cons_zero, List.set_cons_succ, i64_w, i32_w]
             rfl
            refine pure_ (i := 2) (N := some 44) (v := ?_) (a' := ?_) #[true, true, true, false, false, false, false, false, false, false] rfl rfl (by kernel_rfl) (fun _ _ _ h => h) (Or.inl ⟨by rfl, ?_⟩) ?_ ?_
            rotate_left
            ·intro w'
             go_simp;with_reducible rfl
            rotate_left
            ·simp only [Act.put, List.setIfInBounds_toArray, List.set_cons_zero, List.set_cons_succ, i64_w, i32_w]
             rfl
            refine pure_ (i := 4) (N := some 46) (v := ?_) (a' := ?_) #[true, true, true, false, true, false, false, false, false, false] rfl rfl (by kernel_rfl) (fun _ _ _ h => h) (Or.inl ⟨by rfl, ?_⟩) ?_ ?_
            rotate_left
            ·intro w'
             go_simp;with_reducible rfl
            rotate_left
            ·simp only [Act.put, List.setIfInBounds_toArray, List.set_cons_zero, List.set_cons_succ, i64_w, i32_w]
             rfl
            refine pure_ (i := 5) (N := some 47) (v := ?_) (a' := ?_) #[true, true, true, false, true, true, false, false, false, false] rfl rfl (by kernel_rfl) (fun _ _ _ h => h) (Or.inl ⟨by rfl, ?_⟩) ?_ ?_
            rotate_left
            ·intro w'
             go_simp;with_reducible rfl
            rotate_left
            ·simp only [Act.put, List.setIfInBounds_toArray, List.set_cons_zero, List.set_cons_succ, i64_w, i32_w]
             rfl
            refine pure_ (i := 6) (N := some 48) (v := ?_) (a' := ?_) #[true, true, true, false, true, true, true, false, false, false] rfl rfl (by kernel_rfl) (fun _ _ _ h => h) (Or.inl ⟨by rfl, ?_⟩) ?_ ?_
            rotate_left
            ·intro w'
             go_simp;with_reducible rfl
            rotate_left
            ·simp only [Act.put, List.setIfInBounds_toArray, List.set_cons_zero, List.set_cons_succ, i64_w, i32_w]
             rfl
            refine take_ (i := 3) (N := some 45) (v := ?_) (a' := ?_) #[true, true, true, true, true, true, true, false, false, false] rfl rfl (by kernel_rfl) (fun _ _ _ h => h) (Or.inl ⟨by rfl, ?_⟩) hHeld ?_ ?_
            rotate_left
            ·rintro w' ⟨s0, s1⟩
             go_simp;with_reducible rfl
            rotate_left
            ·simp only [Act.put, List.setIfInBounds_toArray, List.set_cons_zero, List.set_cons_succ, i64_w, i32_w]
             rfl
            refine take_ (i := 7) (N := some 49) (v := ?_) (a' := ?_) #[true, true, true, true, true, true, true, true, false, false] rfl rfl (by kernel_rfl) (fun _ _ _ h => h) (Or.inl ⟨by rfl, ?_⟩) hHeld ?_ ?_
            rotate_left
            ·rintro w' ⟨s0, s1⟩
             go_simp;with_reducible rfl
            rotate_left
            ·simp only [Act.put, List.setIfInBounds_toArray, List.set_cons_zero, List.set_cons_succ, i64_w, i32_w]
             rfl
            refine pure_ (i := 8) (N := some 50) (v := ?_) (a' := ?_) #[true, true, true, true, true, true, true, true, true, false] rfl rfl (by kernel_rfl) (fun _ _ _ h => h) (Or.inl ⟨by rfl, ?_⟩) ?_ ?_
            rotate_left
            ·intro w'
             go_simp;with_reducible rfl
            rotate_left
            ·simp only [Act.put, List.setIfInBounds_toArray, List.set_cons_zero, List.set_cons_succ, i64_w, i32_w]
             rfl
            refine pure_ (i := 9) (N := some 9) (v := ?_) (a' := ?_) #[true, true, true, true, true, true, true, true, true, true] rfl rfl (by kernel_rfl) (fun _ _ _ h => h) (Or.inl ⟨by rfl, ?_⟩) ?_ ?_
            rotate_left
            ·intro w'
             go_simp;with_reducible rfl
            rotate_left
            ·simp only [Act.put, List.setIfInBounds_toArray, List.set_cons_zero, List.set_cons_succ, i64_w, i32_w]
             rfl
            refine done_ (by kernel_rfl) ?_
            refine NoPanic.normal ?_
            have ST0 := ST
            replace ST := Aside0.mk (ST0.out.below (below_drew1 (Below.refl _ _)))
            replace HBKx := Aside0.mk (blk_drew HBKx.out)
            replace HBKy := Aside0.mk (blk_drew HBKy.out)
            clear s0x s1x s2x s0y s1y s2y cL fL ST0;have s0x := (blk_cell HBKx.out offx).trans QQx.out.1
            have s1x := (blk_cell HBKx.out (offx + 1)).trans QQx.out.2.1
            have s2x := (blk_cell HBKx.out (offx + 2)).trans QQx.out.2.2
            have s0y := (blk_cell HBKy.out offy).trans QQy.out.1
            have s1y := (blk_cell HBKy.out (offy + 1)).trans QQy.out.2.1
            have s2y := (blk_cell HBKy.out (offy + 2)).trans QQy.out.2.2
            have cL := (blk_cell ST.out.c 0).trans (show _ = some (Value.slice Av o.length cv) from rfl)
            have fL := blk_frozen ST.out.c 0
            go_wp2
            have STD := Aside0.mk (ST.out.below (below_drew1 (Below.refl _ _)))
            refine wp_region_noPanic ?_
            refine start_ (n := 10) (S := fun w' => w'.cell? ⟨w.heap.size, 0, none⟩ = some (.slice Av o.length cv) ∧ w'.cell? ⟨glx, offx, none⟩ = some (.int .i64 a.f0) ∧ w'.cell? ⟨glx, offx + 1, none⟩ = some (.int .i64 a.f1) ∧ w'.cell? ⟨glx, offx + 2, none⟩ = some (.string a.f2)) (ds := [9]) #[false, false, false, false, false, false, false, false, false, false] (by kernel_rfl) rfl rfl ⟨((blk_cell STD.out.c 0).trans (show _ = some (Value.slice Av o.length cv) from rfl)), ((blk_cell (blk_drew HBKx.out) offx).trans QQx.out.1), ((blk_cell (blk_drew HBKx.out) (offx + 1)).trans QQx.out.2.1), ((blk_cell (blk_drew HBKx.out) (offx + 2)).trans QQx.out.2.2)⟩ (fun hHeld => ?_)
            refine pure_ (i := 1) (N := some 57) (v := ?_) (a' := ?_) #[false, true, false, false, false, false, false, false, false, false] rfl rfl (by kernel_rfl) (fun _ _ _ h => h) (Or.inl ⟨by rfl, ?_⟩) ?_ ?_
            rotate_left
            ·intro w'
             go_simp;with_reducible rfl
            rotate_left
            ·simp only [Act.put, List.setIfInBounds_toArray, List.set_cons_zero, List.set_cons_succ, i64_w, i32_w]
             rfl
            refine pure_ (i := 2) (N := some 58) (v := ?_) (a' := ?_) #[false, true, true, false, false, false, false, false, false, false] rfl rfl (by kernel_rfl) (fun _ _ _ h => h) (Or.inl ⟨by rfl, ?_⟩) ?_ ?_
            rotate_left
            ·intro w'
             go_simp;with_reducible rfl
            rotate_left
            ·simp only [Act.put, List.setIfInBounds_toArray, List.set_cons_zero, List.set_cons_succ, i64_w, i32_w]
             rfl
            refine pure_ (i := 3) (N := some 59) (v := ?_) (a' := ?_) #[false, true, true, true, false, false, false, false, false, false] rfl rfl (by kernel_rfl) (fun _ _ _ h => h) (Or.inl ⟨by rfl, ?_⟩) ?_ ?_
            rotate_left
            ·intro w'
             go_simp;with_reducible rfl
            rotate_left
            ·simp only [Act.put, List.setIfInBounds_toArray, List.set_cons_zero, List.set_cons_succ, i64_w, i32_w]
             rfl
            refine pure_ (i := 5) (N := some 61) (v := ?_) (a' := ?_) #[false, true, true, true, false, true, false, false, false, false] rfl rfl (by kernel_rfl) (fun _ _ _ h => h) (Or.inl ⟨by rfl, ?_⟩) ?_ ?_
            rotate_left
            ·intro w'
             go_simp;with_reducible rfl
            rotate_left
            ·simp only [Act.put, List.setIfInBounds_toArray, List.set_cons_zero, List.set_cons_succ, i64_w, i32_w]
             rfl
            refine take_ (i := 0) (N := some 56) (v := ?_) (a' := ?_) #[true, true, true, true, false, true, false, false, false, false] rfl rfl (by kernel_rfl) (fun _ _ _ h => h) (Or.inl ⟨by rfl, ?_⟩) hHeld ?_ ?_
            rotate_left
            ·rintro w' ⟨s0, s1, s2, s3⟩
             go_simp;with_reducible rfl
            rotate_left
            ·simp only [Act.put, List.setIfInBounds_toArray, List.set_cons_zero, List.set_cons_succ, i64_w, i32_w]
             rfl
            refine take_ (i := 4) (N := some 60) (v := ?_) (a' := ?_) #[true, true, true, true, true, true, false, false, false, false] rfl rfl (by kernel_rfl) (fun _ _ _ h => h) (Or.inl ⟨by rfl, ?_⟩) hHeld ?_ ?_
            rotate_left
            ·rintro w' ⟨s0, s1, s2, s3⟩
             go_simp;with_reducible rfl
            rotate_left
            ·simp only [Act.put, List.setIfInBounds_toArray, List.set_cons_zero, List.set_cons_succ, i64_w, i32_w]
             rfl
            refine pure_ (i := 6) (N := some 62) (v := ?_) (a' := ?_) #[true, true, true, true, true, true, true, false, false, false] rfl rfl (by kernel_rfl) (fun _ _ _ h => h) (Or.inl ⟨by rfl, ?_⟩) ?_ ?_
            rotate_left
            ·intro w'
             go_simp;with_reducible rfl
            rotate_left
            ·simp only [Act.put, List.setIfInBounds_toArray, List.set_cons_zero, List.set_cons_succ, i64_w, i32_w]
             rfl
            refine one_ (i := 7) (N := some 63) #[true, true, true, true, true, true, true, true, false, false] rfl rfl (by kernel_rfl) (by decide) (fun K hK => ?_)
            refine value_ (w1 := ?_) (v := ?_) (by rfl) rfl ?_ ?_
            rotate_left 2
            ·go_simp;constructor
             ·rfl
             ·rfl
            refine hK.out _ _ ⟨((blk_cell (blk_alloc STD.out.c _) 0).trans (show _ = some (Value.slice Av o.length cv) from rfl)), ((blk_cell (blk_alloc (blk_drew HBKx.out) _) offx).trans QQx.out.1), ((blk_cell (blk_alloc (blk_drew HBKx.out) _) (offx + 1)).trans QQx.out.2.1), ((blk_cell (blk_alloc (blk_drew HBKx.out) _) (offx + 2)).trans QQx.out.2.2)⟩ (fun hHeld => ?_)
            clear hK K;refine norm_ (a' := ?_) ?_ ?_
            rotate_left
            ·show Act.put _ (some 63) _ = _
             simp only [Act.put, List.setIfInBounds_toArray, List.set_cons_zero, List.set_cons_succ, i64_w, i32_w]
             rfl
            refine one_ (i := 8) (N := some 64) #[true, true, true, true, true, true, true, true, true, false] rfl rfl (by kernel_rfl) (by decide) (fun K hK => ?_)
            refine Kd.R_append_step k26 (w0 := w) w.heap.size (by rfl) (.tmp 56) (.tmp 63) 27 26 (.agg #[.int .i64 0, .int .i64 0, .string ⟨#[]⟩]) 32 (by rfl) Tryd.underlying27 info26 rfl (by decide) (by omega) _ o (⟨a.f0, min a.f1 s.f1, ⟨#[]⟩⟩ : S26) [.int .i64 a.f0, .int .i64 (min a.f1 s.f1), .string ⟨#[]⟩] (fun _ => True) (fun _ => False) (by rfl) (by rfl) (k26_mkM _ _ _ (⟨a.f0, min a.f1 s.f1, ⟨#[]⟩⟩ : S26)) (fun _ hk => hk.elim) (fun _ _ => trivial) STD.out.o STD.out.b STD.out.b.size (by have := HLT.out; omega) ?_
            intro v1 w5 ho1 hb1 hg1 hat1;have BX5 := Aside0.mk (OvS.box STD.out hg1)
            have cx5 := (blk_cell BX5.out 0).trans (show _ = some (Value.slice Av o.length cv) from rfl)
            have fx5 := blk_frozen BX5.out 0;have BR5 := (hg1.block glx (blk_lt (blk_drew HBKx.out)) (STD.out.nx (by simp))).trans (blk_drew HBKx.out)
            have STF := Aside0.mk (OvS.append STD.out ho1 hb1 hg1 hat1)
            obtain ⟨Aw, cw, rfl⟩ := Kd.R_slice ho1
            rw [List.length_append, List.length_singleton] at STF ⊢
            clear ho1 hb1 hg1 hat1;refine hK.out _ _ ⟨cx5, (blk_cell BR5 offx).trans QQx.out.1, (blk_cell BR5 (offx + 1)).trans QQx.out.2.1, (blk_cell BR5 (offx + 2)).trans QQx.out.2.2⟩ (fun hHeld => ?_)
            clear hK K;refine norm_ (a' := ?_) ?_ ?_
            rotate_left
            ·show Act.put _ (some 64) _ = _
             simp only [Act.put, List.setIfInBounds_toArray, List.set_cons_zero, List.set_cons_succ, i64_w, i32_w]
             rfl
            refine last_ (i := 9) (N := none) #[true, true, true, true, true, true, true, true, true, true] rfl rfl (by kernel_rfl) (by decide) (fun K hK => ?_)
            refine skip_ (w1 := ?_) (by rfl) rfl ?_ ?_
            rotate_left
            ·go_simp;rfl
            refine hK.out _ _ ?_
            clear hK K;refine done_ (by kernel_rfl) ?_
            refine NoPanic.normal ?_
            go_wp2_with (first | (go_at_call 50; (with_reducible refine (over_less.callsN glx cx (some ⟨glx, offx, none⟩) a x nx HNx.out (min a.f1 s.f1) _ STF.out.rx STF.out.xc STF.out.xm).mono ?_); rintro e w6 ⟨A', c', rfl, hl⟩; have STG := Aside0.mk (STF.out.less (by simp) hl); clear hl) | (go_at_call 50; (with_reducible refine (over_less.callsN gly cy (some ⟨gly, offy, none⟩) s y ny HNy.out (min a.f1 s.f1) _ STG.out.swap.rx STG.out.swap.xc STG.out.swap.xm).mono ?_); rintro e w6 ⟨A', c', rfl, hl⟩; have STH := Aside0.mk (STG.out.swap.less (by simp) hl); clear hl))
            go_roundg kq
            case measure => omega
            case rel => exact ⟨glx, gly, _, _, _, _, _, _, _, _, rfl, rfl, ⟨STH.out.swap⟩, HC2⟩
           ·cases hc
          ·have d1y : (s.f0 == 1) = false := by simp [hs1]
           subst hv0 hv1 hBx hBy
           rw [overL, if_neg hs2, if_neg ha2] at hc
           simp only [mn_min] at hc
           rw [if_neg hs1] at hc
           have HC2 := Aside0.mk hc;clear hc HC ha2 hs2 hs1;go_wp2
           refine wp_region_noPanic ?_
           refine start_ (n := 10) (S := fun w' => w'.cell? ⟨glx, offx + 1, none⟩ = some (.int .i64 a.f1) ∧ w'.cell? ⟨gly, offy + 1, none⟩ = some (.int .i64 s.f1)) (ds := []) #[false, false, false, false, false, false, false, false, false, false] (by kernel_rfl) rfl rfl ⟨((blk_cell (blk_drew HBKx.out) (offx + 1)).trans QQx.out.2.1), ((blk_cell (blk_drew HBKy.out) (offy + 1)).trans QQy.out.2.1)⟩ (fun hHeld => ?_)
           refine pure_ (i := 0) (N := some 42) (v := ?_) (a' := ?_) #[true, false, false, false, false, false, false, false, false, false] rfl rfl (by kernel_rfl) (fun _ _ _ h => h) (Or.inl ⟨by rfl, ?_⟩) ?_ ?_
           rotate_left
           ·intro w'
            go_simp;with_reducible rfl
           rotate_left
           ·simp only [Act.put, List.setIfInBounds_toArray, List.set_cons_zero, List.set_cons_succ, i64_w, i32_w]
            rfl
           refine pure_ (i := 1) (N := some 43) (v := ?_) (a' := ?_) #[true, true, false, false, false, false, false, false, false, false] rfl rfl (by kernel_rfl) (fun _ _ _ h => h) (Or.inl ⟨by rfl, ?_⟩) ?_ ?_
           rotate_left
           ·intro w'
            go_simp;with_reducible rfl
           rotate_left
           ·simp only [Act.put, List.setIfInBounds_toArray, List.set_cons_zero, List.set_cons_succ, i64_w, i32_w]
            rfl
           refine pure_ (i := 2) (N := some 44) (v := ?_) (a' := ?_) #[true, true, true, false, false, false, false, false, false, false] rfl rfl (by kernel_rfl) (fun _ _ _ h => h) (Or.inl ⟨by rfl, ?_⟩) ?_ ?_
           rotate_left
           ·intro w'
            go_simp;with_reducible rfl
           rotate_left
           ·simp only [Act.put, List.setIfInBounds_toArray, List.set_cons_zero, List.set_cons_succ, i64_w, i32_w]
            rfl
           refine pure_ (i := 4) (N := some 46) (v := ?_) (a' := ?_) #[true, true, true, false, true, false, false, false, false, false] rfl rfl (by kernel_rfl) (fun _ _ _ h => h) (Or.inl ⟨by rfl, ?_⟩) ?_ ?_
           rotate_left
           ·intro w'
            go_simp;with_reducible rfl
           rotate_left
           ·simp only [Act.put, List.setIfInBounds_toArray, List.set_cons_zero, List.set_cons_succ, i64_w, i32_w]
            rfl
           refine pure_ (i := 5) (N := some 47) (v := ?_) (a' := ?_) #[true, true, true, false, true, true, false, false, false, false] rfl rfl (by kernel_rfl) (fun _ _ _ h => h) (Or.inl ⟨by rfl, ?_⟩) ?_ ?_
           rotate_left
           ·intro w'
            go_simp;with_reducible rfl
           rotate_left
           ·simp only [Act.put, List.setIfInBounds_toArray, List.set_cons_zero, List.set_cons_succ, i64_w, i32_w]
            rfl
           refine pure_ (i := 6) (N := some 48) (v := ?_) (a' := ?_) #[true, true, true, false, true, true, true, false, false, false] rfl rfl (by kernel_rfl) (fun _ _ _ h => h) (Or.inl ⟨by rfl, ?_⟩) ?_ ?_
           rotate_left
           ·intro w'
            go_simp;with_reducible rfl
           rotate_left
           ·simp only [Act.put, List.setIfInBounds_toArray, List.set_cons_zero, List.set_cons_succ, i64_w, i32_w]
            rfl
           refine take_ (i := 3) (N := some 45) (v := ?_) (a' := ?_) #[true, true, true, true, true, true, true, false, false, false] rfl rfl (by kernel_rfl) (fun _ _ _ h => h) (Or.inl ⟨by rfl, ?_⟩) hHeld ?_ ?_
           rotate_left
           ·rintro w' ⟨s0, s1⟩
            go_simp;with_reducible rfl
           rotate_left
           ·simp only [Act.put, List.setIfInBounds_toArray, List.set_cons_zero, List.set_cons_succ, i64_w, i32_w]
            rfl
           refine take_ (i := 7) (N := some 49) (v := ?_) (a' := ?_) #[true, true, true, true, true, true, true, true, false, false] rfl rfl (by kernel_rfl) (fun _ _ _ h => h) (Or.inl ⟨by rfl, ?_⟩) hHeld ?_ ?_
           rotate_left
           ·rintro w' ⟨s0, s1⟩
            go_simp;with_reducible rfl
           rotate_left
           ·simp only [Act.put, List.setIfInBounds_toArray, List.set_cons_zero, List.set_cons_succ, i64_w, i32_w]
            rfl
           refine pure_ (i := 8) (N := some 50) (v := ?_) (a' := ?_) #[true, true, true, true, true, true, true, true, true, false] rfl rfl (by kernel_rfl) (fun _ _ _ h => h) (Or.inl ⟨by rfl, ?_⟩) ?_ ?_
           rotate_left
           ·intro w'
            go_simp;with_reducible rfl
           rotate_left
           ·simp only [Act.put, List.setIfInBounds_toArray, List.set_cons_zero, List.set_cons_succ, i64_w, i32_w]
            rfl
           refine pure_ (i := 9) (N := some 9) (v := ?_) (a' := ?_) #[true, true, true, true, true, true, true, true, true, true] rfl rfl (by kernel_rfl) (fun _ _ _ h => h) (Or.inl ⟨by rfl, ?_⟩) ?_ ?_
           rotate_left
           ·intro w'
            go_simp;with_reducible rfl
           rotate_left
           ·simp only [Act.put, List.setIfInBounds_toArray, List.set_cons_zero, List.set_cons_succ, i64_w, i32_w]
            rfl
           refine done_ (by kernel_rfl) ?_
           refine NoPanic.normal ?_
           have ST0 := ST
           replace ST := Aside0.mk (ST0.out.below (below_drew1 (Below.refl _ _)))
           replace HBKx := Aside0.mk (blk_drew HBKx.out)
           replace HBKy := Aside0.mk (blk_drew HBKy.out)
           clear s0x s1x s2x s0y s1y s2y cL fL ST0;have s0x := (blk_cell HBKx.out offx).trans QQx.out.1
           have s1x := (blk_cell HBKx.out (offx + 1)).trans QQx.out.2.1
           have s2x := (blk_cell HBKx.out (offx + 2)).trans QQx.out.2.2
           have s0y := (blk_cell HBKy.out offy).trans QQy.out.1
           have s1y := (blk_cell HBKy.out (offy + 1)).trans QQy.out.2.1
           have s2y := (blk_cell HBKy.out (offy + 2)).trans QQy.out.2.2
           have cL := (blk_cell ST.out.c 0).trans (show _ = some (Value.slice Av o.length cv) from rfl)
           have fL := blk_frozen ST.out.c 0
           go_wp2_with (first | (go_at_call 50; (with_reducible refine (over_less.callsN glx cx (some ⟨glx, offx, none⟩) a x nx HNx.out (min a.f1 s.f1) _ ST.out.rx ST.out.xc ST.out.xm).mono ?_); rintro e w6 ⟨A', c', rfl, hl⟩; have STG := Aside0.mk (ST.out.less (by simp) hl); clear hl) | (go_at_call 50; (with_reducible refine (over_less.callsN gly cy (some ⟨gly, offy, none⟩) s y ny HNy.out (min a.f1 s.f1) _ STG.out.swap.rx STG.out.swap.xc STG.out.swap.xm).mono ?_); rintro e w6 ⟨A', c', rfl, hl⟩; have STH := Aside0.mk (STG.out.swap.less (by simp) hl); clear hl))
           go_roundg kq
           case measure => omega
           case rel => exact ⟨glx, gly, _, _, _, _, _, _, _, _, rfl, rfl, ⟨STH.out.swap⟩, HC2⟩
   ·rw [if_neg hz] at hrest
    obtain ⟨rfl, rfl⟩ : [] = r1 ∧ 5 = r2 := by simpa using hrest
    have d1 : (n != m) = true := by simp [hz]
    clear hrest hz;go_wp2_with (first | (go_at_call 45; (with_reducible refine (op_In.calls k _ _ l0 n _ (HG.out.below HBW.out) (Kd.C_below HR0.out HBW.out) HC0.out HN.out).mono ?_); rintro e w1 ⟨rfl, hb⟩; have HB1 := Aside0.mk hb; clear hb) | (go_at_call 45; (with_reducible refine (op_In.calls k _ _ l1 m _ (HG.out.below (below_step HBW.out HB1.out)) (Kd.C_below HR1.out (below_step HBW.out HB1.out)) HC1.out HMM.out).mono ?_); rintro e w2 ⟨rfl, hb⟩; have HB2 := Aside0.mk (below_step HB1.out hb); have cb := (blk_cell (blk_below HBX.out (below_step HB1.out hb)) 0).trans (show _ = some (Value.slice none 0 0) from rfl); have fb := blk_frozen (blk_below HBX.out (below_step HB1.out hb)) 0; clear hb))
    have cz := (blk_cell (blk_put (blk_below HBX.out HB2.out) 0 (.slice none 0 0) rfl) 0).trans (show _ = some (Value.slice none 0 0) from rfl)
    try rw [Exit.noGoto_ret]
    refine ⟨.tuple #[.slice none 0 0, .int .i64 5], by simp [results, Tryd.results15, Tryd.f15, go_sem, cz], _, rfl, Kd.R_nil _ _ _ _ _, (below_step HBW.out HB2.out).setCell (p := ⟨w.heap.size, 0, none⟩) (Nat.le_refl _) _⟩
end Go.Proofs.YtkefbljogjcodaaDoor.F
end
section
namespace Go.Proofs.YtkefbljogjcodaaDoor.F
open Go.RowKit Go.Proofs.YtkefbljogjcodaaDoorW.PrintWords Go.Proofs.YtkefbljogjcodaaDoorW.PrintLast Go.Proofs.YtkefbljogjcodaaDoorW.PrintMore
attribute [local go_sem] max2_int min2_int max_two min_two max_three min_three max_four min_four cell_setCell_isSome
set_option linter.unusedVariables false
set_option linter.unusedSimpArgs false
open Kd
def epitomelaw11_shown.f (k : Nat)  : Option (Bool) := (epitomelaw11_spans.f k (⟨#[107, 49, 121, 49, 107, 50]⟩ : ByteArray)).bind fun t101 => ((epitomelaw11_spans.f k (⟨#[107, 49, 100, 49, 120, 49, 107, 49]⟩ : ByteArray)).bind fun t104 => ((over_Of.f k t101 t104).bind fun bt107 => ((epitomelaw11_spans.f k (⟨#[107, 49, 121, 49, 107, 50]⟩ : ByteArray)).bind fun t111 => ((epitomelaw11_spans.f k (⟨#[107, 49, 120, 49, 100, 49, 107, 49]⟩ : ByteArray)).bind fun t114 => ((over_Of.f k t111 t114).bind fun bt117 => (if bt107.2 = 0 then (if bt117.2 = 0 then ((epitomelaw11_spans.f k (⟨#[107, 49, 121, 49, 107, 50]⟩ : ByteArray)).bind fun t121 => ((epitomeref04_Same.f k bt107.1 t121).bind fun t124 => (if t124 = true then ((epitomelaw11_spans.f k (⟨#[107, 50, 121, 49, 107, 49]⟩ : ByteArray)).bind fun t125 => ((epitomeref04_Same.f k bt117.1 t125).bind fun t128 => (some t128))) else (some false)))) else (some false)) else (some false)))))))
theorem epitomelaw11_shown.mono : ∀ k, LeO (epitomelaw11_shown.f k ) (epitomelaw11_shown.f (k + 1) ) := by
  intro  k
  unfold epitomelaw11_shown.f
  repeat' first
      | (with_reducible exact epitomelaw11_spans.mono _ _)
      | (with_reducible exact epitomeref04_Same.mono _ _ _)
      | (with_reducible exact over_Of.mono _ _ _)
      | (with_reducible exact LeO.refl _)
      | (with_reducible exact LeO.none _)
      | (with_reducible refine LeO.ite ?_ ?_)
      | (with_reducible refine LeO.bind ?_ (fun _ => ?_))
      | exact epitomelaw11_spans.mono _ _
      | exact epitomeref04_Same.mono _ _ _
      | exact over_Of.mono _ _ _
      | exact LeO.none _
      | refine LeO.ite ?_ ?_
      | refine LeO.bind ?_ (fun _ => ?_)
set_option maxHeartbeats 8000000 in
set_option maxRecDepth 100000 in
theorem epitomelaw11_shown.calls (k : Nat)  (r : Bool) (hr_ : Aside0 (r = true)) (w : World) (hG : Glob w) (h : epitomelaw11_shown.f k  = some r) :
  Calls Tryd.prog 29 #[] w fun e w' => e = .returned (.bool r) ∧ Below w.heap.size w w' := by
 have HG := Am hG;clear hG;have HB := Am (Below.refl w.heap.size w)
 have H : ((epitomelaw11_spans.f k (⟨#[107, 49, 121, 49, 107, 50]⟩ : ByteArray)).bind fun t101 => ((epitomelaw11_spans.f k (⟨#[107, 49, 100, 49, 120, 49, 107, 49]⟩ : ByteArray)).bind fun t104 => ((over_Of.f k t101 t104).bind fun bt107 => ((epitomelaw11_spans.f k (⟨#[107, 49, 121, 49, 107, 50]⟩ : ByteArray)).bind fun t111 => ((epitomelaw11_spans.f k (⟨#[107, 49, 120, 49, 100, 49, 107, 49]⟩ : ByteArray)).bind fun t114 => ((over_Of.f k t111 t114).bind fun bt117 => (if bt107.2 = 0 then (if bt117.2 = 0 then ((epitomelaw11_spans.f k (⟨#[107, 49, 121, 49, 107, 50]⟩ : ByteArray)).bind fun t121 => ((epitomeref04_Same.f k bt107.1 t121).bind fun t124 => (if t124 = true then ((epitomelaw11_spans.f k (⟨#[107, 50, 121, 49, 107, 49]⟩ : ByteArray)).bind fun t125 => ((epitomeref04_Same.f k bt117.1 t125).bind fun t128 => (some t128))) else (some false)))) else (some false)) else (some false)))))))) = some r := h
 clear h;replace H := Option.bind_eq_some_iff.mp H;obtain ⟨t101, A10, H⟩ := H;have A1 := Am A10;clear A10;replace H := Option.bind_eq_some_iff.mp H;obtain ⟨t104, A20, H⟩ := H;have A2 := Am A20;clear A20;replace H := Option.bind_eq_some_iff.mp H;obtain ⟨⟨t107, t108⟩, A30, H⟩ := H;have A3 := Am A30;clear A30;replace H := Option.bind_eq_some_iff.mp H;obtain ⟨t111, A40, H⟩ := H;have A4 := Am A40;clear A40;replace H := Option.bind_eq_some_iff.mp H;obtain ⟨t114, A50, H⟩ := H;have A5 := Am A50;clear A50;replace H := Option.bind_eq_some_iff.mp H;obtain ⟨⟨t117, t118⟩, A60, H⟩ := H;have A6 := Am A60;clear A60;by_cases c7 : t108 = 0
 ·rw [if_pos c7] at H;have c7b0 : (t108 == 0) = true := beq_iff_eq.mpr c7
  have c7b1 : (t108 != 0) = false := bne_eq_false_iff_eq.mpr c7
  clear c7;by_cases c8 : t118 = 0
  ·rw [if_pos c8] at H;have c8b0 : (t118 == 0) = true := beq_iff_eq.mpr c8
   have c8b1 : (t118 != 0) = false := bne_eq_false_iff_eq.mpr c8
   clear c8;replace H := Option.bind_eq_some_iff.mp H;obtain ⟨t121, A90, H⟩ := H;have A9 := Am A90;clear A90;replace H := Option.bind_eq_some_iff.mp H;obtain ⟨t124, A100, H⟩ := H;have A10 := Am A100;clear A100;by_cases c11 : t124 = true
   ·subst c11
    have H1 : ((epitomelaw11_spans.f k (⟨#[107, 50, 121, 49, 107, 49]⟩ : ByteArray)).bind fun t125 => ((epitomeref04_Same.f k t117 t125).bind fun t128 => (some t128))) = some r := by rw [if_pos rfl] at H; exact H
    clear H;have H := H1
    clear H1;replace H := Option.bind_eq_some_iff.mp H;obtain ⟨t125, A120, H⟩ := H;replace H : ((epitomeref04_Same.f k t117 t125).bind fun t128 => (some t128)) = some r := H
    have A12 := Am A120;clear A120;replace H := Option.bind_eq_some_iff.mp H;obtain ⟨t128, A130, H⟩ := H;replace H : (some t128) = some r := H
    have A13 := Am A130;clear A130;obtain rfl := Option.some.inj H;go_enter Tryd.func29, Tryd.ntmps29
    go_wp2_with (first | ((with_reducible refine gate_callee (f := 65) rfl ?_); refine goesL_ (some 6) rfl rfl Tryd.func65 (by kernel_rfl) rfl #[.string (⟨#[107, 49, 121, 49, 107, 50]⟩ : ByteArray)] rfl (by (try simp only [List.map_toArray, List.map_cons, List.map_nil]); first | done | rfl | (simp only [List.length_drop, List.length_take]; rfl)) ?_; (with_reducible refine (epitomelaw11_spans.calls k (⟨#[107, 49, 121, 49, 107, 50]⟩ : ByteArray) t101 _ A1.out).mono ?_); rintro e w14 ⟨v102, rfl, ho0, hb⟩; refine ⟨_, rfl, ?_⟩; have n0_ := Am (R_lower ho0 (below_size (by repeat (first | (with_reducible first | exact HB.out | apply below_alloc | apply pw_below_drewN | apply below_drew1) | exact HB.out)))); have n1_ := Am (below_step (by repeat (first | (with_reducible first | exact HB.out | apply below_alloc | apply pw_below_drewN | apply below_drew1) | exact HB.out)) hb); clear HB; have HO103 := n0_; have HB := n1_; clear n0_ n1_; (try clear hb); (try clear ho0); (try clear A1)) | ((with_reducible refine gate_callee (f := 65) rfl ?_); refine goesL_ (some 7) rfl rfl Tryd.func65 (by kernel_rfl) rfl #[.string (⟨#[107, 49, 100, 49, 120, 49, 107, 49]⟩ : ByteArray)] rfl (by (try simp only [List.map_toArray, List.map_cons, List.map_nil]); first | done | rfl | (simp only [List.length_drop, List.length_take]; rfl)) ?_; (with_reducible refine (epitomelaw11_spans.calls k (⟨#[107, 49, 100, 49, 120, 49, 107, 49]⟩ : ByteArray) t104 _ A2.out).mono ?_); rintro e w15 ⟨v105, rfl, ho0, hb⟩; refine ⟨_, rfl, ?_⟩; have n0_ := Am (R_elder' (by (with_reducible repeat (first | apply R_alloc | apply R_drewN | apply R_drew)); exact HO103.out) (R_base ho0) hb); have n1_ := Am (R_lower (R_new' ho0 (R_lt (by (with_reducible repeat (first | apply R_alloc | apply R_drewN | apply R_drew)); exact HO103.out))) (below_size (by repeat (first | (with_reducible first | exact HB.out | apply below_alloc | apply pw_below_drewN | apply below_drew1) | exact HB.out)))); have n2_ := Am (below_step (by repeat (first | (with_reducible first | exact HB.out | apply below_alloc | apply pw_below_drewN | apply below_drew1) | exact HB.out)) hb); clear HO103; clear HB; have HO103 := n0_; have HO106 := n1_; have HB := n2_; clear n0_ n1_ n2_; (try clear hb); (try clear ho0); obtain ⟨Ao16, co16, eo16⟩ := R_slice HO103.out; subst eo16; obtain ⟨Ao17, co17, eo17⟩ := R_slice HO106.out; subst eo17; (try clear A2)) | ((with_reducible refine gate_callee (f := 15) rfl ?_); refine goesL_ (some 8) rfl rfl Tryd.func15 (by kernel_rfl) rfl #[.slice Ao16 t101.length co16, .slice Ao17 t104.length co17] rfl (by (try simp only [List.map_toArray, List.map_cons, List.map_nil]); first | done | rfl | (simp only [List.length_drop, List.length_take]; rfl)) ?_; (with_reducible refine (over_Of.calls k _ _ t101 _ _ t104 t107 t108 _ ?side1 ?side2 ?side3 ?side4 ?side5 A3.out).mono ?_); (case side1 => first | (with_reducible exact HG.out) | exact Glob.below HG.out (by repeat (first | (with_reducible first | exact HB.out | apply below_alloc | apply pw_below_drewN | apply below_drew1) | exact HB.out)) | exact Glob.drawn HG.out (by repeat (first | exact Drawn0.refl _ | apply Drawn0.step))); (case side2 => repeat (first | exact (R_reads' HO103.out).2.2 | (with_reducible refine C_alloc ?_ _) | (with_reducible refine C_drewN ?_ _) | (with_reducible refine C_drew ?_))); (case side3 => exact (R_reads' HO103.out).2.1); (case side4 => repeat (first | exact (R_reads' HO106.out).2.2 | (with_reducible refine C_alloc ?_ _) | (with_reducible refine C_drewN ?_ _) | (with_reducible refine C_drew ?_))); (case side5 => exact (R_reads' HO106.out).2.1); rintro e w18 ⟨v109, rfl, ho0, hb⟩; refine ⟨_, rfl, ?_⟩; have n0_ := Am (R_elder' (by (with_reducible repeat (first | apply R_alloc | apply R_drewN | apply R_drew)); exact HO103.out) (R_base ho0) hb); have n1_ := Am (R_elder' (by (with_reducible repeat (first | apply R_alloc | apply R_drewN | apply R_drew)); exact HO106.out) (R_base ho0) hb); have n2_ := Am (R_lower (R_new' (R_new' ho0 (R_lt (by (with_reducible repeat (first | apply R_alloc | apply R_drewN | apply R_drew)); exact HO103.out))) (R_lt (by (with_reducible repeat (first | apply R_alloc | apply R_drewN | apply R_drew)); exact HO106.out))) (below_size (by repeat (first | (with_reducible first | exact HB.out | apply below_alloc | apply pw_below_drewN | apply below_drew1) | exact HB.out)))); have n3_ := Am (below_step (by repeat (first | (with_reducible first | exact HB.out | apply below_alloc | apply pw_below_drewN | apply below_drew1) | exact HB.out)) hb); clear HO103; clear HO106; clear HB; have HO103 := n0_; have HO106 := n1_; have HO110 := n2_; have HB := n3_; clear n0_ n1_ n2_ n3_; (try clear hb); (try clear ho0); (try clear A3)) | ((with_reducible refine gate_callee (f := 65) rfl ?_); refine goesL_ (some 12) rfl rfl Tryd.func65 (by kernel_rfl) rfl #[.string (⟨#[107, 49, 121, 49, 107, 50]⟩ : ByteArray)] rfl (by (try simp only [List.map_toArray, List.map_cons, List.map_nil]); first | done | rfl | (simp only [List.length_drop, List.length_take]; rfl)) ?_; (with_reducible refine (epitomelaw11_spans.calls k (⟨#[107, 49, 121, 49, 107, 50]⟩ : ByteArray) t111 _ A4.out).mono ?_); rintro e w19 ⟨v112, rfl, ho0, hb⟩; refine ⟨_, rfl, ?_⟩; have n0_ := Am (R_elder' (by (with_reducible repeat (first | apply R_alloc | apply R_drewN | apply R_drew)); exact HO103.out) (R_base ho0) hb); have n1_ := Am (R_elder' (by (with_reducible repeat (first | apply R_alloc | apply R_drewN | apply R_drew)); exact HO106.out) (R_base ho0) hb); have n2_ := Am (R_elder' (by (with_reducible repeat (first | apply R_alloc | apply R_drewN | apply R_drew)); exact HO110.out) (R_base ho0) hb); have n3_ := Am (R_lower (R_new' (R_new' (R_new' ho0 (R_lt (by (with_reducible repeat (first | apply R_alloc | apply R_drewN | apply R_drew)); exact HO103.out))) (R_lt (by (with_reducible repeat (first | apply R_alloc | apply R_drewN | apply R_drew)); exact HO106.out))) (R_lt (by (with_reducible repeat (first | apply R_alloc | apply R_drewN | apply R_drew)); exact HO110.out))) (below_size (by repeat (first | (with_reducible first | exact HB.out | apply below_alloc | apply pw_below_drewN | apply below_drew1) | exact HB.out)))); have n4_ := Am (below_step (by repeat (first | (with_reducible first | exact HB.out | apply below_alloc | apply pw_below_drewN | apply below_drew1) | exact HB.out)) hb); clear HO103; clear HO106; clear HO110; clear HB; have HO103 := n0_; have HO106 := n1_; have HO110 := n2_; have HO113 := n3_; have HB := n4_; clear n0_ n1_ n2_ n3_ n4_; (try clear hb); (try clear ho0); (try clear A4)) | ((with_reducible refine gate_callee (f := 65) rfl ?_); refine goesL_ (some 13) rfl rfl Tryd.func65 (by kernel_rfl) rfl #[.string (⟨#[107, 49, 120, 49, 100, 49, 107, 49]⟩ : ByteArray)] rfl (by (try simp only [List.map_toArray, List.map_cons, List.map_nil]); first | done | rfl | (simp only [List.length_drop, List.length_take]; rfl)) ?_; (with_reducible refine (epitomelaw11_spans.calls k (⟨#[107, 49, 120, 49, 100, 49, 107, 49]⟩ : ByteArray) t114 _ A5.out).mono ?_); rintro e w20 ⟨v115, rfl, ho0, hb⟩; refine ⟨_, rfl, ?_⟩; have n0_ := Am (R_elder' (by (with_reducible repeat (first | apply R_alloc | apply R_drewN | apply R_drew)); exact HO103.out) (R_base ho0) hb); have n1_ := Am (R_elder' (by (with_reducible repeat (first | apply R_alloc | apply R_drewN | apply R_drew)); exact HO106.out) (R_base ho0) hb); have n2_ := Am (R_elder' (by (with_reducible repeat (first | apply R_alloc | apply R_drewN | apply R_drew)); exact HO110.out) (R_base ho0) hb); have n3_ := Am (R_elder' (by (with_reducible repeat (first | apply R_alloc | apply R_drewN | apply R_drew)); exact HO113.out) (R_base ho0) hb); have n4_ := Am (R_lower (R_new' (R_new' (R_new' (R_new' ho0 (R_lt (by (with_reducible repeat (first | apply R_alloc | apply R_drewN | apply R_drew)); exact HO103.out))) (R_lt (by (with_reducible repeat (first | apply R_alloc | apply R_drewN | apply R_drew)); exact HO106.out))) (R_lt (by (with_reducible repeat (first | apply R_alloc | apply R_drewN | apply R_drew)); exact HO110.out))) (R_lt (by (with_reducible repeat (first | apply R_alloc | apply R_drewN | apply R_drew)); exact HO113.out))) (below_size (by repeat (first | (with_reducible first | exact HB.out | apply below_alloc | apply pw_below_drewN | apply below_drew1) | exact HB.out)))); have n5_ := Am (below_step (by repeat (first | (with_reducible first | exact HB.out | apply below_alloc | apply pw_below_drewN | apply below_drew1) | exact HB.out)) hb); clear HO103; clear HO106; clear HO110; clear HO113; clear HB; have HO103 := n0_; have HO106 := n1_; have HO110 := n2_; have HO113 := n3_; have HO116 := n4_; have HB := n5_; clear n0_ n1_ n2_ n3_ n4_ n5_; (try clear hb); (try clear ho0); obtain ⟨Ao21, co21, eo21⟩ := R_slice HO113.out; subst eo21; obtain ⟨Ao22, co22, eo22⟩ := R_slice HO116.out; subst eo22; (try clear A5)) | ((with_reducible refine gate_callee (f := 15) rfl ?_); refine goesL_ (some 14) rfl rfl Tryd.func15 (by kernel_rfl) rfl #[.slice Ao21 t111.length co21, .slice Ao22 t114.length co22] rfl (by (try simp only [List.map_toArray, List.map_cons, List.map_nil]); first | done | rfl | (simp only [List.length_drop, List.length_take]; rfl)) ?_; (with_reducible refine (over_Of.calls k _ _ t111 _ _ t114 t117 t118 _ ?side1 ?side2 ?side3 ?side4 ?side5 A6.out).mono ?_); (case side1 => first | (with_reducible exact HG.out) | exact Glob.below HG.out (by repeat (first | (with_reducible first | exact HB.out | apply below_alloc | apply pw_below_drewN | apply below_drew1) | exact HB.out)) | exact Glob.drawn HG.out (by repeat (first | exact Drawn0.refl _ | apply Drawn0.step))); (case side2 => repeat (first | exact (R_reads' HO113.out).2.2 | (with_reducible refine C_alloc ?_ _) | (with_reducible refine C_drewN ?_ _) | (with_reducible refine C_drew ?_))); (case side3 => exact (R_reads' HO113.out).2.1); (case side4 => repeat (first | exact (R_reads' HO116.out).2.2 | (with_reducible refine C_alloc ?_ _) | (with_reducible refine C_drewN ?_ _) | (with_reducible refine C_drew ?_))); (case side5 => exact (R_reads' HO116.out).2.1); rintro e w23 ⟨v119, rfl, ho0, hb⟩; refine ⟨_, rfl, ?_⟩; have n0_ := Am (R_elder' (by (with_reducible repeat (first | apply R_alloc | apply R_drewN | apply R_drew)); exact HO103.out) (R_base ho0) hb); have n1_ := Am (R_elder' (by (with_reducible repeat (first | apply R_alloc | apply R_drewN | apply R_drew)); exact HO106.out) (R_base ho0) hb); have n2_ := Am (R_elder' (by (with_reducible repeat (first | apply R_alloc | apply R_drewN | apply R_drew)); exact HO110.out) (R_base ho0) hb); have n3_ := Am (R_elder' (by (with_reducible repeat (first | apply R_alloc | apply R_drewN | apply R_drew)); exact HO113.out) (R_base ho0) hb); have n4_ := Am (R_elder' (by (with_reducible repeat (first | apply R_alloc | apply R_drewN | apply R_drew)); exact HO116.out) (R_base ho0) hb); have n5_ := Am (R_lower (R_new' (R_new' (R_new' (R_new' (R_new' ho0 (R_lt (by (with_reducible repeat (first | apply R_alloc | apply R_drewN | apply R_drew)); exact HO103.out))) (R_lt (by (with_reducible repeat (first | apply R_alloc | apply R_drewN | apply R_drew)); exact HO106.out))) (R_lt (by (with_reducible repeat (first | apply R_alloc | apply R_drewN | apply R_drew)); exact HO110.out))) (R_lt (by (with_reducible repeat (first | apply R_alloc | apply R_drewN | apply R_drew)); exact HO113.out))) (R_lt (by (with_reducible repeat (first | apply R_alloc | apply R_drewN | apply R_drew)); exact HO116.out))) (below_size (by repeat (first | (with_reducible first | exact HB.out | apply below_alloc | apply pw_below_drewN | apply below_drew1) | exact HB.out)))); have n6_ := Am (below_step (by repeat (first | (with_reducible first | exact HB.out | apply below_alloc | apply pw_below_drewN | apply below_drew1) | exact HB.out)) hb); clear HO103; clear HO106; clear HO110; clear HO113; clear HO116; clear HB; have HO103 := n0_; have HO106 := n1_; have HO110 := n2_; have HO113 := n3_; have HO116 := n4_; have HO120 := n5_; have HB := n6_; clear n0_ n1_ n2_ n3_ n4_ n5_ n6_; (try clear hb); (try clear ho0); (try clear A6)) | (go_at_call 65; (with_reducible refine (epitomelaw11_spans.calls k (⟨#[107, 49, 121, 49, 107, 50]⟩ : ByteArray) t121 _ A9.out).mono ?_); rintro e w24 ⟨v122, rfl, ho0, hb⟩; have n0_ := Am (R_elder' (by (with_reducible repeat (first | apply R_alloc | apply R_drewN | apply R_drew)); exact HO103.out) (R_base ho0) hb); have n1_ := Am (R_elder' (by (with_reducible repeat (first | apply R_alloc | apply R_drewN | apply R_drew)); exact HO106.out) (R_base ho0) hb); have n2_ := Am (R_elder' (by (with_reducible repeat (first | apply R_alloc | apply R_drewN | apply R_drew)); exact HO110.out) (R_base ho0) hb); have n3_ := Am (R_elder' (by (with_reducible repeat (first | apply R_alloc | apply R_drewN | apply R_drew)); exact HO113.out) (R_base ho0) hb); have n4_ := Am (R_elder' (by (with_reducible repeat (first | apply R_alloc | apply R_drewN | apply R_drew)); exact HO116.out) (R_base ho0) hb); have n5_ := Am (R_elder' (by (with_reducible repeat (first | apply R_alloc | apply R_drewN | apply R_drew)); exact HO120.out) (R_base ho0) hb); have n6_ := Am (R_lower (R_new' (R_new' (R_new' (R_new' (R_new' (R_new' ho0 (R_lt (by (with_reducible repeat (first | apply R_alloc | apply R_drewN | apply R_drew)); exact HO103.out))) (R_lt (by (with_reducible repeat (first | apply R_alloc | apply R_drewN | apply R_drew)); exact HO106.out))) (R_lt (by (with_reducible repeat (first | apply R_alloc | apply R_drewN | apply R_drew)); exact HO110.out))) (R_lt (by (with_reducible repeat (first | apply R_alloc | apply R_drewN | apply R_drew)); exact HO113.out))) (R_lt (by (with_reducible repeat (first | apply R_alloc | apply R_drewN | apply R_drew)); exact HO116.out))) (R_lt (by (with_reducible repeat (first | apply R_alloc | apply R_drewN | apply R_drew)); exact HO120.out))) (below_size (by repeat (first | (with_reducible first | exact HB.out | apply below_alloc | apply pw_below_drewN | apply below_drew1) | exact HB.out)))); have n7_ := Am (below_step (by repeat (first | (with_reducible first | exact HB.out | apply below_alloc | apply pw_below_drewN | apply below_drew1) | exact HB.out)) hb); clear HO103; clear HO106; clear HO110; clear HO113; clear HO116; clear HO120; clear HB; have HO103 := n0_; have HO106 := n1_; have HO110 := n2_; have HO113 := n3_; have HO116 := n4_; have HO120 := n5_; have HO123 := n6_; have HB := n7_; clear n0_ n1_ n2_ n3_ n4_ n5_ n6_ n7_; (try clear hb); (try clear ho0); obtain ⟨Ao25, co25, eo25⟩ := R_slice HO110.out; subst eo25; obtain ⟨Ao26, co26, eo26⟩ := R_slice HO123.out; subst eo26; (try clear A9)) | (go_at_call 18; (with_reducible refine (epitomeref04_Same.calls k _ _ t107 _ _ t121 true _ ?side1 ?side2 ?side3 ?side4 A10.out).mono ?_); (case side1 => repeat (first | exact (R_reads' HO110.out).2.2 | (with_reducible refine C_alloc ?_ _) | (with_reducible refine C_drewN ?_ _) | (with_reducible refine C_drew ?_))); (case side2 => exact (R_reads' HO110.out).2.1); (case side3 => repeat (first | exact (R_reads' HO123.out).2.2 | (with_reducible refine C_alloc ?_ _) | (with_reducible refine C_drewN ?_ _) | (with_reducible refine C_drew ?_))); (case side4 => exact (R_reads' HO123.out).2.1); rintro e w' ⟨rfl, ⟨nd, rfl⟩⟩; (try clear A10)) | (go_at_call 65; (with_reducible refine (epitomelaw11_spans.calls k (⟨#[107, 50, 121, 49, 107, 49]⟩ : ByteArray) t125 _ A12.out).mono ?_); rintro e w27 ⟨v126, rfl, ho0, hb⟩; have n0_ := Am (R_elder' (by (with_reducible repeat (first | apply R_alloc | apply R_drewN | apply R_drew)); exact HO103.out) (R_base ho0) hb); have n1_ := Am (R_elder' (by (with_reducible repeat (first | apply R_alloc | apply R_drewN | apply R_drew)); exact HO106.out) (R_base ho0) hb); have n2_ := Am (R_elder' (by (with_reducible repeat (first | apply R_alloc | apply R_drewN | apply R_drew)); exact HO110.out) (R_base ho0) hb); have n3_ := Am (R_elder' (by (with_reducible repeat (first | apply R_alloc | apply R_drewN | apply R_drew)); exact HO113.out) (R_base ho0) hb); have n4_ := Am (R_elder' (by (with_reducible repeat (first | apply R_alloc | apply R_drewN | apply R_drew)); exact HO116.out) (R_base ho0) hb); have n5_ := Am (R_elder' (by (with_reducible repeat (first | apply R_alloc | apply R_drewN | apply R_drew)); exact HO120.out) (R_base ho0) hb); have n6_ := Am (R_elder' (by (with_reducible repeat (first | apply R_alloc | apply R_drewN | apply R_drew)); exact HO123.out) (R_base ho0) hb); have n7_ := Am (R_lower (R_new' (R_new' (R_new' (R_new' (R_new' (R_new' (R_new' ho0 (R_lt (by (with_reducible repeat (first | apply R_alloc | apply R_drewN | apply R_drew)); exact HO103.out))) (R_lt (by (with_reducible repeat (first | apply R_alloc | apply R_drewN | apply R_drew)); exact HO106.out))) (R_lt (by (with_reducible repeat (first | apply R_alloc | apply R_drewN | apply R_drew)); exact HO110.out))) (R_lt (by (with_reducible repeat (first | apply R_alloc | apply R_drewN | apply R_drew)); exact HO113.out))) (R_lt (by (with_reducible repeat (first | apply R_alloc | apply R_drewN | apply R_drew)); exact HO116.out))) (R_lt (by (with_reducible repeat (first | apply R_alloc | apply R_drewN | apply R_drew)); exact HO120.out))) (R_lt (by (with_reducible repeat (first | apply R_alloc | apply R_drewN | apply R_drew)); exact HO123.out))) (below_size (by repeat (first | (with_reducible first | exact HB.out | apply below_alloc | apply pw_below_drewN | apply below_drew1) | exact HB.out)))); have n8_ := Am (below_step (by repeat (first | (with_reducible first | exact HB.out | apply below_alloc | apply pw_below_drewN | apply below_drew1) | exact HB.out)) hb); clear HO103; clear HO106; clear HO110; clear HO113; clear HO116; clear HO120; clear HO123; clear HB; have HO103 := n0_; have HO106 := n1_; have HO110 := n2_; have HO113 := n3_; have HO116 := n4_; have HO120 := n5_; have HO123 := n6_; have HO127 := n7_; have HB := n8_; clear n0_ n1_ n2_ n3_ n4_ n5_ n6_ n7_ n8_; (try clear hb); (try clear ho0); obtain ⟨Ao28, co28, eo28⟩ := R_slice HO120.out; subst eo28; obtain ⟨Ao29, co29, eo29⟩ := R_slice HO127.out; subst eo29; (try clear A12)) | (go_at_call 18; (with_reducible refine (epitomeref04_Same.calls k _ _ t117 _ _ t125 t128 _ ?side1 ?side2 ?side3 ?side4 A13.out).mono ?_); (case side1 => repeat (first | exact (R_reads' HO120.out).2.2 | (with_reducible refine C_alloc ?_ _) | (with_reducible refine C_drewN ?_ _) | (with_reducible refine C_drew ?_))); (case side2 => exact (R_reads' HO120.out).2.1); (case side3 => repeat (first | exact (R_reads' HO127.out).2.2 | (with_reducible refine C_alloc ?_ _) | (with_reducible refine C_drewN ?_ _) | (with_reducible refine C_drew ?_))); (case side4 => exact (R_reads' HO127.out).2.1); rintro e w' ⟨rfl, ⟨nd, rfl⟩⟩; (try clear A13)))
    go_ret
    exact ⟨by first | rfl | (simp [errW_none, errW_some] <;> rfl) | (simp [*, errW_none, errW_some] <;> rfl), by repeat (first | (with_reducible first | exact HB.out | apply below_alloc | apply pw_below_drewN | apply below_drew1) | exact HB.out)⟩
   ·replace c11 := Bool.eq_false_iff.mpr c11
    subst c11
    have H1 : (some false) = some r := by rw [if_neg (show ¬ (false = true) by decide)] at H; exact H
    clear H;have H := H1
    clear H1;exact Bool.noConfusion ((Option.some.inj H).trans hr_.out)
  ·rw [if_neg c8] at H;have c8b0 : (t118 == 0) = false := beq_eq_false_iff_ne.mpr c8
   have c8b1 : (t118 != 0) = true := bne_iff_ne.mpr c8
   exact Bool.noConfusion ((Option.some.inj H).trans hr_.out)
 ·rw [if_neg c7] at H;have c7b0 : (t108 == 0) = false := beq_eq_false_iff_ne.mpr c7
  have c7b1 : (t108 != 0) = true := bne_iff_ne.mpr c7
  exact Bool.noConfusion ((Option.some.inj H).trans hr_.out)
end Go.Proofs.YtkefbljogjcodaaDoor.F
end
section
namespace Go.Proofs.YtkefbljogjcodaaDoor.F
open Go.RowKit Go.Proofs.YtkefbljogjcodaaDoorW.PrintWords Go.Proofs.YtkefbljogjcodaaDoorW.PrintLast Go.Proofs.YtkefbljogjcodaaDoorW.PrintMore
attribute [local go_sem] max2_int min2_int max_two min_two max_three min_three max_four min_four cell_setCell_isSome
set_option linter.unusedVariables false
set_option linter.unusedSimpArgs false
open Kd
def epitomeref01_size.j0 : Nat → Int → Bool → Option (Int)
  | 0, _, _ => none
  | k + 1, x0, x16 => if x16 = true then (some 0) else (if x0 < 128 then (some 1) else (if x0 < 2048 then (some 2) else (if x0 < 65536 then (some 3) else (some 4))))
def epitomeref01_size.f (k : Nat) (a0 : Int) : Option (Int) := if a0 < 0 then (epitomeref01_size.j0 k a0 true) else (if a0 > 1114111 then (epitomeref01_size.j0 k a0 true) else (if a0 ≥ 55296 then (epitomeref01_size.j0 k a0 (decide (a0 ≤ 57343))) else (epitomeref01_size.j0 k a0 false)))
theorem epitomeref01_size.mono_l : ∀ k, (∀ y0 y1, LeO (epitomeref01_size.j0 k y0 y1) (epitomeref01_size.j0 (k + 1) y0 y1))
  | 0 => fun _ _ r h => by simp [epitomeref01_size.j0] at h
  | k + 1 => by
    have ih0 := epitomeref01_size.mono_l k
    · intro y0 y1
      unfold epitomeref01_size.j0
      repeat' first
      | (with_reducible exact ih0 _ _)
      | (with_reducible exact LeO.refl _)
      | (with_reducible exact LeO.none _)
      | (with_reducible refine LeO.ite ?_ ?_)
      | (with_reducible refine LeO.bind ?_ (fun _ => ?_))
      | exact ih0 _ _
      | exact LeO.none _
      | refine LeO.ite ?_ ?_
      | refine LeO.bind ?_ (fun _ => ?_)
theorem epitomeref01_size.mono : ∀ a0 k, LeO (epitomeref01_size.f k a0) (epitomeref01_size.f (k + 1) a0) := by
  intro a0 k
  have ih0 := epitomeref01_size.mono_l k
  unfold epitomeref01_size.f
  repeat' first
      | (with_reducible exact ih0 _ _)
      | (with_reducible exact LeO.refl _)
      | (with_reducible exact LeO.none _)
      | (with_reducible refine LeO.ite ?_ ?_)
      | (with_reducible refine LeO.bind ?_ (fun _ => ?_))
      | exact ih0 _ _
      | exact LeO.none _
      | refine LeO.ite ?_ ?_
      | refine LeO.bind ?_ (fun _ => ?_)
set_option maxHeartbeats 8000000 in
set_option maxRecDepth 100000 in
theorem epitomeref01_size.calls (k : Nat) (a0 : Int) (r : Int) (w : World) (h : epitomeref01_size.f k a0 = some r) :
  Calls Tryd.prog 81 #[.int .i64 a0] w fun e w' => e = .returned (.int .i64 r) ∧ Drawn0 w w' := by
 have H : (if a0 < 0 then (epitomeref01_size.j0 k a0 true) else (if a0 > 1114111 then (epitomeref01_size.j0 k a0 true) else (if a0 ≥ 55296 then (epitomeref01_size.j0 k a0 (decide (a0 ≤ 57343))) else (epitomeref01_size.j0 k a0 false)))) = some r := h
 clear h;have HC2 := Am H;clear H;go_enter Tryd.func81, Tryd.ntmps81
 go_upto_region 1 with (fail)
 go_cut [16] (fun v16 wc => ∃ (kq : Nat) (x16_1 : Bool), v16 = .bool x16_1 ∧ Aside0 (epitomeref01_size.j0 kq a0 x16_1 = some r) ∧ Aside0 (kq ≤ k) ∧ Drawn0 w wc)
 case first =>
  have H := HC2.out;clear HC2;by_cases c3 : a0 < 0
  ·rw [if_pos c3] at H;have c3b0 : decide (a0 < 0) = true := decide_eq_true c3
   clear c3;(first | rw [c3b0] | (simp only [i64_w, i32_w]; rw [c3b0]) | skip)
   have H' := Am H
   clear H;go_wp2
   go_meet
   case rel => exact ⟨_, (true), (by first | rfl | (simp; done) | (simp [*]; done)), H', ⟨by first | omega | exact Nat.le_refl _⟩, by repeat (first | exact Drawn0.refl _ | apply Drawn0.step)⟩
  ·rw [if_neg c3] at H;have c3b0 : decide (a0 < 0) = false := decide_eq_false c3
   clear c3;(first | rw [c3b0] | (simp only [i64_w, i32_w]; rw [c3b0]) | skip)
   by_cases c4 : a0 > 1114111
   ·rw [if_pos c4] at H;have c4b0 : decide (1114111 < a0) = true := decide_eq_true c4
    clear c4;have H' := Am H
    clear H;go_wp2
    go_meet
    case rel => exact ⟨_, (true), (by first | rfl | (simp; done) | (simp [*]; done)), H', ⟨by first | omega | exact Nat.le_refl _⟩, by repeat (first | exact Drawn0.refl _ | apply Drawn0.step)⟩
   ·rw [if_neg c4] at H;have c4b0 : decide (1114111 < a0) = false := decide_eq_false c4
    clear c4;by_cases c5 : a0 ≥ 55296
    ·rw [if_pos c5] at H;have c5b0 : decide (55296 ≤ a0) = true := decide_eq_true c5
     clear c5;have H' := Am H
     clear H;go_wp2
     go_meet
     case rel => exact ⟨_, (decide (a0 ≤ 57343)), (by first | rfl | (simp; done) | (simp [*]; done)), H', ⟨by first | omega | exact Nat.le_refl _⟩, by repeat (first | exact Drawn0.refl _ | apply Drawn0.step)⟩
    ·rw [if_neg c5] at H;have c5b0 : decide (55296 ≤ a0) = false := decide_eq_false c5
     clear c5;have H' := Am H
     clear H;go_wp2
     go_meet
     case rel => exact ⟨_, (false), (by first | rfl | (simp; done) | (simp [*]; done)), H', ⟨by first | omega | exact Nat.le_refl _⟩, by repeat (first | exact Drawn0.refl _ | apply Drawn0.step)⟩
 case rest =>
  clear HC2;(try clear p2);(try clear c3);(try clear c3b0);(try clear c4);(try clear c4b0);(try clear c5);(try clear c5b0);obtain ⟨kq, x16_1, rfl, HA, HJ1, ⟨mc1, rfl⟩⟩ := hcut
  cases kq with
  | zero => exact absurd HA.out (by simp [epitomeref01_size.j0])
  | succ kj1 =>
   have H := HA.out;clear HA;simp only [epitomeref01_size.j0] at H
   by_cases c6 : x16_1 = true
   ·subst c6
    have H1 : (some 0) = some r := by rw [if_pos rfl] at H; exact H
    clear H;have H := H1
    clear H1;obtain rfl := Option.some.inj H;go_wp2
    go_ret
    exact ⟨by first | rfl | (simp; done) | (simp [*]; done), by repeat (first | exact Drawn0.refl _ | apply Drawn0.step)⟩
   ·replace c6 := Bool.eq_false_iff.mpr c6
    subst c6
    have H1 : (if a0 < 128 then (some 1) else (if a0 < 2048 then (some 2) else (if a0 < 65536 then (some 3) else (some 4)))) = some r := by rw [if_neg (show ¬ (false = true) by decide)] at H; exact H
    clear H;have H := H1
    clear H1;by_cases c7 : a0 < 128
    ·rw [if_pos c7] at H;have c7b0 : decide (a0 < 128) = true := decide_eq_true c7
     clear c7;obtain rfl := Option.some.inj H;go_wp2
     go_ret
     exact ⟨by first | rfl | (simp; done) | (simp [*]; done), by repeat (first | exact Drawn0.refl _ | apply Drawn0.step)⟩
    ·rw [if_neg c7] at H;have c7b0 : decide (a0 < 128) = false := decide_eq_false c7
     clear c7;by_cases c8 : a0 < 2048
     ·rw [if_pos c8] at H;have c8b0 : decide (a0 < 2048) = true := decide_eq_true c8
      clear c8;obtain rfl := Option.some.inj H;go_wp2
      go_ret
      exact ⟨by first | rfl | (simp; done) | (simp [*]; done), by repeat (first | exact Drawn0.refl _ | apply Drawn0.step)⟩
     ·rw [if_neg c8] at H;have c8b0 : decide (a0 < 2048) = false := decide_eq_false c8
      clear c8;by_cases c9 : a0 < 65536
      ·rw [if_pos c9] at H;have c9b0 : decide (a0 < 65536) = true := decide_eq_true c9
       clear c9;obtain rfl := Option.some.inj H;go_wp2
       go_ret
       exact ⟨by first | rfl | (simp; done) | (simp [*]; done), by repeat (first | exact Drawn0.refl _ | apply Drawn0.step)⟩
      ·rw [if_neg c9] at H;have c9b0 : decide (a0 < 65536) = false := decide_eq_false c9
       clear c9;obtain rfl := Option.some.inj H;go_wp2
       go_ret
       exact ⟨by first | rfl | (simp; done) | (simp [*]; done), by repeat (first | exact Drawn0.refl _ | apply Drawn0.step)⟩
end Go.Proofs.YtkefbljogjcodaaDoor.F
end
section
namespace Go.Proofs.YtkefbljogjcodaaDoor.F
open Go.RowKit Go.Proofs.YtkefbljogjcodaaDoorW.PrintWords Go.Proofs.YtkefbljogjcodaaDoorW.PrintLast Go.Proofs.YtkefbljogjcodaaDoorW.PrintMore
attribute [local go_sem] max2_int min2_int max_two min_two max_three min_three max_four min_four cell_setCell_isSome
set_option linter.unusedVariables false
set_option linter.unusedSimpArgs false
open Kd
def epitomeref01_Of.l0 : Nat → List Int → List Int → Int → Option (ByteArray)
  | 0, _, _, _ => none
  | k + 1, x0, x3, x4 => if x4 < (x0.length : Int) then (if 0 ≤ x4 then ((epitomeref01_size.f k (wrap64 (rd x0 x4))).bind fun t105 => (if t105 = 1 then (if x3.length < 140737488355328 then (epitomeref01_Of.l0 k x0 (x3 ++ [(wrap64 (rd x0 x4)) % 256]) (wrap64 (x4 + 1))) else (none)) else (if t105 = 2 then ((some (([(wrap64 (192 + (wrap64 (Int.tdiv (wrap64 (rd x0 x4)) 64)))) % 256, (wrap64 (128 + (Int.tmod (wrap64 (rd x0 x4)) 64))) % 256] : List Int) : List Int)).bind fun y109 => (if x3.length + y109.length < 140737488355328 then (epitomeref01_Of.l0 k x0 (x3 ++ y109) (wrap64 (x4 + 1))) else (none))) else (if t105 = 3 then ((some (([(wrap64 (224 + (wrap64 (Int.tdiv (wrap64 (rd x0 x4)) 4096)))) % 256, (wrap64 (128 + (Int.tmod (wrap64 (Int.tdiv (wrap64 (rd x0 x4)) 64)) 64))) % 256, (wrap64 (128 + (Int.tmod (wrap64 (rd x0 x4)) 64))) % 256] : List Int) : List Int)).bind fun y115 => (if x3.length + y115.length < 140737488355328 then (epitomeref01_Of.l0 k x0 (x3 ++ y115) (wrap64 (x4 + 1))) else (none))) else (if t105 = 4 then ((some (([(wrap64 (240 + (wrap64 (Int.tdiv (wrap64 (rd x0 x4)) 262144)))) % 256, (wrap64 (128 + (Int.tmod (wrap64 (Int.tdiv (wrap64 (rd x0 x4)) 4096)) 64))) % 256, (wrap64 (128 + (Int.tmod (wrap64 (Int.tdiv (wrap64 (rd x0 x4)) 64)) 64))) % 256, (wrap64 (128 + (Int.tmod (wrap64 (rd x0 x4)) 64))) % 256] : List Int) : List Int)).bind fun y121 => (if x3.length + y121.length < 140737488355328 then (epitomeref01_Of.l0 k x0 (x3 ++ y121) (wrap64 (x4 + 1))) else (none))) else (epitomeref01_Of.l0 k x0 x3 (wrap64 (x4 + 1)))))))) else (none)) else (some (strOfNums x3))
def epitomeref01_Of.f (k : Nat) (l0 : List Int) : Option (ByteArray) := epitomeref01_Of.l0 k l0 (([] : List Int)) 0
theorem epitomeref01_Of.mono_l : ∀ k, (∀ y0 y1 y2, LeO (epitomeref01_Of.l0 k y0 y1 y2) (epitomeref01_Of.l0 (k + 1) y0 y1 y2))
  | 0 => fun _ _ _ r h => by simp [epitomeref01_Of.l0] at h
  | k + 1 => by
    have ih0 := epitomeref01_Of.mono_l k
    · intro y0 y1 y2
      unfold epitomeref01_Of.l0
      repeat' first
      | (with_reducible exact ih0 _ _ _)
      | (with_reducible exact epitomeref01_size.mono _ _)
      | (with_reducible exact LeO.refl _)
      | (with_reducible exact LeO.none _)
      | (with_reducible refine LeO.ite ?_ ?_)
      | (with_reducible refine LeO.bind ?_ (fun _ => ?_))
      | exact ih0 _ _ _
      | exact epitomeref01_size.mono _ _
      | exact LeO.none _
      | refine LeO.ite ?_ ?_
      | refine LeO.bind ?_ (fun _ => ?_)
theorem epitomeref01_Of.mono : ∀ a0 k, LeO (epitomeref01_Of.f k a0) (epitomeref01_Of.f (k + 1) a0) := by
  intro a0 k
  have ih0 := epitomeref01_Of.mono_l k
  unfold epitomeref01_Of.f
  repeat' first
      | (with_reducible exact ih0 _ _ _)
      | (with_reducible exact epitomeref01_size.mono _ _)
      | (with_reducible exact LeO.refl _)
      | (with_reducible exact LeO.none _)
      | (with_reducible refine LeO.ite ?_ ?_)
      | (with_reducible refine LeO.bind ?_ (fun _ => ?_))
      | exact ih0 _ _ _
      | exact epitomeref01_size.mono _ _
      | exact LeO.none _
      | refine LeO.ite ?_ ?_
      | refine LeO.bind ?_ (fun _ => ?_)
set_option maxHeartbeats 8000000 in
set_option maxRecDepth 100000 in
theorem epitomeref01_Of.calls (k : Nat) (A0 : Option Addr) (c0 : Nat) (l0 : List Int) (r : ByteArray) (w : World) (hr0 : Kd.C (Kd.int .i32) w A0 l0.length l0) (hc0 : l0.length ≤ c0) (h : epitomeref01_Of.f k l0 = some r) :
  Calls Tryd.prog 46 #[.slice A0 l0.length c0] w fun e w' => e = .returned (.string r) ∧ Below w.heap.size w w' := by
 have HR0 := Am hr0;have HC0 := Am hc0;clear hr0 hc0;have HB := Am (Below.refl w.heap.size w)
 have H : (epitomeref01_Of.l0 k l0 (([] : List Int)) 0) = some r := h
 clear h;obtain ⟨y101, hy101⟩ : ∃ y_ : List Int, y_ = (([] : List Int)) := ⟨_, rfl⟩
 replace H : (epitomeref01_Of.l0 k l0 y101 0) = some r := by first | (rw [hy101]; with_reducible exact H) | (have H2_ := (Option.bind_some _ _).symm.trans H; rw [hy101]; with_reducible exact H2_) | (have H2_ := (Option.bind_some _ _).symm.trans H; with_reducible exact H2_) | with_reducible exact H | (rw [hy101]; exact H) | exact H
 have Ny101 := Am hy101;clear hy101;have H' := Am H
 clear H;go_enter Tryd.func46, Tryd.ntmps46
 go_wp2_with (first | ((with_reducible refine gate_dst (N := 6) rfl ?_); refine R_lit (Kd.int .u8) _ 5 ?hg (N := 6) ?hd (xs := ([] : List Int)) (inner := []) (ok := fun _ => True) (okp := fun _ => True) ?hr ?hp (fun _ hk => hk) trivial (Below.refl _ _) (Nat.le_refl _) (by simp) ?_; (case hd => rfl); (case hg => rfl); (case hr => first | (go_simp; done) | (go_simp; rfl)); (case hp => exact (Reps.none _ _)); intro v102 w2 ho3 hb hg_ hnew_; clear hg_ hnew_; (first | rw [← Ny101.out] at ho3 | (simp only [Int.reduceToNat] at ho3; rw [← Ny101.out] at ho3)); have n0_ := Am (R_lower ho3 (below_size (by repeat (first | (with_reducible first | exact HB.out | apply below_alloc | apply pw_below_drewN | apply below_drew1) | exact HB.out)))); have n1_ := Am (below_step (by repeat (first | (with_reducible first | exact HB.out | apply below_alloc | apply pw_below_drewN | apply below_drew1) | exact HB.out)) hb); clear HB; have HO103 := n0_; have HB := n1_; clear n0_ n1_; clear hb ho3))
 go_loopg [3, 4] k (fun kq v3 v4 w' => ∃ (x3_1 : List Int) (x4_1 : Int), v4 = .int .i64 x4_1 ∧ Aside0 (epitomeref01_Of.l0 kq l0 x3_1 x4_1 = some r) ∧ Aside0 (kq ≤ k) ∧ Aside0 (Kd.R (Kd.int .u8) 5 w' w.heap.size (fun _ => True) v3 x3_1) ∧ Aside0 (Below w.heap.size w w'))
 case atStart => exact ⟨(y101), (0), (by first | rfl | (simp; done) | (simp [*]; done)), H', ⟨Nat.le_refl _⟩, ⟨by (with_reducible repeat (first | apply R_alloc | apply R_drewN | apply R_drew)); exact HO103.out⟩, ⟨by repeat (first | (with_reducible first | exact HB.out | apply below_alloc | apply pw_below_drewN | apply below_drew1) | exact HB.out)⟩⟩
 case round =>
  clear H';(try clear p2);obtain ⟨x3_1, x4_1, rfl, HA, HK1, HO_3, HB⟩ := hrel
  cases gk with
  | zero => exact absurd HA.out (by simp [epitomeref01_Of.l0])
  | succ k1 =>
   have H := HA.out;clear HA;simp only [epitomeref01_Of.l0] at H
   by_cases c4 : x4_1 < (l0.length : Int)
   ·rw [if_pos c4] at H;have c4b0 : decide (x4_1 < (l0.length : Int)) = true := decide_eq_true c4
    clear c4;by_cases c5 : 0 ≤ x4_1
    ·rw [if_pos c5] at H;have c5b0 : decide (0 ≤ x4_1) = true := decide_eq_true c5
     clear c5;replace H := Option.bind_eq_some_iff.mp H;obtain ⟨t105, A60, H⟩ := H;have A6 := Am A60;clear A60;by_cases c7 : t105 = 1
     ·rw [if_pos c7] at H;have c7b0 : (t105 == 1) = true := beq_iff_eq.mpr c7
      have c7b1 : (t105 != 1) = false := bne_eq_false_iff_eq.mpr c7
      clear c7;by_cases c8 : x3_1.length < 140737488355328
      ·rw [if_pos c8] at H;have LMc8 := Am c8;clear c8;obtain ⟨y106, hy106⟩ : ∃ y_ : List Int, y_ = (x3_1 ++ [(wrap64 (rd l0 x4_1)) % 256]) := ⟨_, rfl⟩
       replace H : (epitomeref01_Of.l0 k1 l0 y106 (wrap64 (x4_1 + 1))) = some r := by first | (rw [hy106]; with_reducible exact H) | (have H2_ := (Option.bind_some _ _).symm.trans H; rw [hy106]; with_reducible exact H2_) | (have H2_ := (Option.bind_some _ _).symm.trans H; with_reducible exact H2_) | with_reducible exact H | (rw [hy106]; exact H) | exact H
       have Ny106 := Am hy106;clear hy106;have H' := Am H
       clear H;have p104 : 0 ≤ (x4_1 : Int) := of_decide_eq_true (by first | (with_reducible assumption) | assumption)
       have q104 : x4_1 < (l0.length : Int) := of_decide_eq_true (by first | (with_reducible assumption) | assumption)
       obtain ⟨ad104, e104, hx104_0⟩ := Kd.at_int HR0.out x4_1 p104 q104
       cases e104
       replace hx104_0 := (HB.out.cell (World.block_lt_of_cell? w _ hx104_0)).trans hx104_0
       replace p104 := eq_true p104;replace q104 := eq_true q104;go_wp2_with (first | ((with_reducible refine gate_callee (f := 81) rfl ?_); refine goesL_ (some 19) rfl rfl Tryd.func81 (by kernel_rfl) rfl #[.int .i64 (wrap64 (rd l0 x4_1))] rfl (by (try simp only [List.map_toArray, List.map_cons, List.map_nil]); first | done | rfl | (simp only [List.length_drop, List.length_take]; rfl)) ?_; (with_reducible refine (epitomeref01_size.calls k1 (wrap64 (rd l0 x4_1)) t105 _ A6.out).mono ?_); rintro e w' ⟨rfl, ⟨nd, rfl⟩⟩; refine ⟨_, rfl, ?_⟩) | ((with_reducible refine gate_builtin (b := .append) (xs := #[.tmp 22, .tmp 25]) rfl ?_); at_builtin; refine R_append (Kd.int .u8) (w0 := w) w.heap.size rfl (.tmp 22) (.tmp 25) 98 5 (.int .u8 0) 1 rfl Tryd.underlying98 info5 rfl (by decide) (by omega) u3 x3_1 ((wrap64 (rd l0 x4_1)) % 256) [.int .u8 ((wrap64 (rd l0 x4_1)) % 256)] (fun _ => True) (fun _ => False) rfl rfl ?aP (fun _ hk => hk.elim) ?aF ?aO ?aB ?aS ?aL ?_; (case aP => exact rfl); (case aB => exact (by repeat (first | (with_reducible first | exact HB.out | apply below_alloc | apply pw_below_drewN | apply below_drew1) | exact HB.out))); (case aF => exact (fun _ _ => trivial)); (case aO => exact (by (with_reducible repeat (first | apply R_alloc | apply R_drewN | apply R_drew)); exact HO_3.out)); (case aS => exact (below_size (by repeat (first | (with_reducible first | exact HB.out | apply below_alloc | apply pw_below_drewN | apply below_drew1) | exact HB.out)))); (case aL => have := LMc8.out; omega); intro v107 w9 ho hb hg hat; rw [← Ny106.out] at ho; have n0_ := Am (hb); have n1_ := Am (ho); clear HB; clear HO_3; have HB := n0_; have HO108 := n1_; clear n0_ n1_; clear ho hb hg hat))
       go_roundg k1
       case measure => have := HK1.out; omega
       case rel => exact ⟨(y106), (wrap64 (x4_1 + 1)), (by first | rfl | (simp; done) | (simp [*]; done)), H', ⟨by have := HK1.out; omega⟩, ⟨by (with_reducible repeat (first | apply R_alloc | apply R_drewN | apply R_drew)); exact HO108.out⟩, ⟨by repeat (first | (with_reducible first | exact HB.out | apply below_alloc | apply pw_below_drewN | apply below_drew1) | exact HB.out)⟩⟩
      ·rw [if_neg c8] at H;exact absurd H (by simp)
     ·rw [if_neg c7] at H;have c7b0 : (t105 == 1) = false := beq_eq_false_iff_ne.mpr c7
      have c7b1 : (t105 != 1) = true := bne_iff_ne.mpr c7
      by_cases c10 : t105 = 2
      ·rw [if_pos c10] at H;have c10b0 : (t105 == 2) = true := beq_iff_eq.mpr c10
       have c10b1 : (t105 != 2) = false := bne_eq_false_iff_eq.mpr c10
       clear c10;obtain ⟨y109, hy109⟩ : ∃ y_ : List Int, y_ = (([(wrap64 (192 + (wrap64 (Int.tdiv (wrap64 (rd l0 x4_1)) 64)))) % 256, (wrap64 (128 + (Int.tmod (wrap64 (rd l0 x4_1)) 64))) % 256] : List Int)) := ⟨_, rfl⟩
       replace H : (if x3_1.length + y109.length < 140737488355328 then (epitomeref01_Of.l0 k1 l0 (x3_1 ++ y109) (wrap64 (x4_1 + 1))) else (none)) = some r := by first | (rw [hy109]; with_reducible exact H) | (have H2_ := (Option.bind_some _ _).symm.trans H; rw [hy109]; with_reducible exact H2_) | (have H2_ := (Option.bind_some _ _).symm.trans H; with_reducible exact H2_) | with_reducible exact H | (rw [hy109]; exact H) | exact H
       have Ny109 := Am hy109;clear hy109;by_cases c11 : x3_1.length + y109.length < 140737488355328
       ·rw [if_pos c11] at H;have LMc11 := Am c11;clear c11;obtain ⟨y112, hy112⟩ : ∃ y_ : List Int, y_ = (x3_1 ++ y109) := ⟨_, rfl⟩
        replace H : (epitomeref01_Of.l0 k1 l0 y112 (wrap64 (x4_1 + 1))) = some r := by first | (rw [hy112]; with_reducible exact H) | (have H2_ := (Option.bind_some _ _).symm.trans H; rw [hy112]; with_reducible exact H2_) | (have H2_ := (Option.bind_some _ _).symm.trans H; with_reducible exact H2_) | with_reducible exact H | (rw [hy112]; exact H) | exact H
        have Ny112 := Am hy112;clear hy112;have H' := Am H
        clear H;have p104 : 0 ≤ (x4_1 : Int) := of_decide_eq_true (by first | (with_reducible assumption) | assumption)
        have q104 : x4_1 < (l0.length : Int) := of_decide_eq_true (by first | (with_reducible assumption) | assumption)
        obtain ⟨ad104, e104, hx104_0⟩ := Kd.at_int HR0.out x4_1 p104 q104
        cases e104
        replace hx104_0 := (HB.out.cell (World.block_lt_of_cell? w _ hx104_0)).trans hx104_0
        replace p104 := eq_true p104;replace q104 := eq_true q104;go_wp2_with (first | ((with_reducible refine gate_callee (f := 81) rfl ?_); refine goesL_ (some 19) rfl rfl Tryd.func81 (by kernel_rfl) rfl #[.int .i64 (wrap64 (rd l0 x4_1))] rfl (by (try simp only [List.map_toArray, List.map_cons, List.map_nil]); first | done | rfl | (simp only [List.length_drop, List.length_take]; rfl)) ?_; (with_reducible refine (epitomeref01_size.calls k1 (wrap64 (rd l0 x4_1)) t105 _ A6.out).mono ?_); rintro e w' ⟨rfl, ⟨nd, rfl⟩⟩; refine ⟨_, rfl, ?_⟩) | ((with_reducible refine gate_dst (N := 38) rfl ?_); refine R_lit (Kd.int .u8) _ 5 ?hg (N := 38) ?hd (xs := ([(wrap64 (192 + (wrap64 (Int.tdiv (wrap64 (rd l0 x4_1)) 64)))) % 256, (wrap64 (128 + (Int.tmod (wrap64 (rd l0 x4_1)) 64))) % 256] : List Int)) (inner := [.int .u8 ((wrap64 (192 + (wrap64 (Int.tdiv (wrap64 (rd l0 x4_1)) 64)))) % 256), .int .u8 ((wrap64 (128 + (Int.tmod (wrap64 (rd l0 x4_1)) 64))) % 256)]) (ok := fun _ => True) (okp := fun _ => True) ?hr ?hp (fun _ hk => hk) trivial (Below.refl _ _) (Nat.le_refl _) (by simp) ?_; (case hd => rfl); (case hg => rfl); (case hr => first | (go_simp; done) | (go_simp; rfl)); (case hp => exact (Reps.one (show Kd.M (Kd.int .u8) _ _ _ ((wrap64 (192 + (wrap64 (Int.tdiv (wrap64 (rd l0 x4_1)) 64)))) % 256) [.int .u8 ((wrap64 (192 + (wrap64 (Int.tdiv (wrap64 (rd l0 x4_1)) 64)))) % 256)] from rfl) (Reps.one (show Kd.M (Kd.int .u8) _ _ _ ((wrap64 (128 + (Int.tmod (wrap64 (rd l0 x4_1)) 64))) % 256) [.int .u8 ((wrap64 (128 + (Int.tmod (wrap64 (rd l0 x4_1)) 64))) % 256)] from rfl) (Reps.none _ _)))); intro v110 w12 ho13 hb hg_ hnew_; clear hg_ hnew_; (first | rw [← Ny109.out] at ho13 | (simp only [Int.reduceToNat] at ho13; rw [← Ny109.out] at ho13)); have n0_ := Am (R_elder' (by (with_reducible repeat (first | apply R_alloc | apply R_drewN | apply R_drew)); exact HO_3.out) (R_base ho13) hb); have n1_ := Am (R_lower (R_new' ho13 (R_lt (by (with_reducible repeat (first | apply R_alloc | apply R_drewN | apply R_drew)); exact HO_3.out))) (below_size (by repeat (first | (with_reducible first | exact HB.out | apply below_alloc | apply pw_below_drewN | apply below_drew1) | exact HB.out)))); have n2_ := Am (below_step (by repeat (first | (with_reducible first | exact HB.out | apply below_alloc | apply pw_below_drewN | apply below_drew1) | exact HB.out)) hb); clear HO_3; clear HB; have HO_3 := n0_; have HO111 := n1_; have HB := n2_; clear n0_ n1_ n2_; clear hb ho13; obtain ⟨Ao15, co15, eo15⟩ := R_slice HO111.out; subst eo15) | ((with_reducible refine gate_builtin (b := .append) (xs := #[.tmp 29, .tmp 38]) rfl ?_); at_builtin; refine R_append_rows (Kd.int .u8) (w0 := w) w.heap.size rfl (.tmp 29) (.tmp 38) 98 5 (.int .u8 0) 1 rfl Tryd.underlying98 info5 rfl (by decide) (by omega) u3 x3_1 y109 _ _ _ (fun k_ => some k_ ≠ (.slice Ao15 y109.length co15 : Value).ownBlock) (fun _ => False) rfl rfl ?aO ?aR (fun _ _ h => h) (fun _ h => h.elim) ?aF ?aB ?aS ?aL ?_; (case aR => repeat (first | exact (R_reads' HO111.out).2.2 | (with_reducible refine C_alloc ?_ _) | (with_reducible refine C_drewN ?_ _) | (with_reducible refine C_drew ?_))); (case aB => exact (by repeat (first | (with_reducible first | exact HB.out | apply below_alloc | apply pw_below_drewN | apply below_drew1) | exact HB.out))); (case aF => exact (fun k_ hk => Kd.fresh' (R_lt (by (with_reducible repeat (first | apply R_alloc | apply R_drewN | apply R_drew)); exact HO111.out)) k_ hk)); (case aO => exact (by (with_reducible repeat (first | apply R_alloc | apply R_drewN | apply R_drew)); exact R_mono HO_3.out (fun _ hk => hk.2))); (case aS => exact (below_size (by repeat (first | (with_reducible first | exact HB.out | apply below_alloc | apply pw_below_drewN | apply below_drew1) | exact HB.out)))); (case aL => have := LMc11.out; omega); intro v113 w14 ho hb hg hat; rw [← Ny112.out] at ho; have n0_ := Am (R_after (ok := (fun _ => True)) (by (with_reducible repeat (first | apply R_alloc | apply R_drewN | apply R_drew)); exact HO111.out) hg hat); have n1_ := Am (hb); have n2_ := Am (ho); clear HO111; clear HB; clear HO_3; have HO111 := n0_; have HB := n1_; have HO114 := n2_; clear n0_ n1_ n2_; clear ho hb hg hat))
        go_roundg k1
        case measure => have := HK1.out; omega
        case rel => exact ⟨(y112), (wrap64 (x4_1 + 1)), (by first | rfl | (simp; done) | (simp [*]; done)), H', ⟨by have := HK1.out; omega⟩, ⟨by (with_reducible repeat (first | apply R_alloc | apply R_drewN | apply R_drew)); exact R_mono HO114.out (fun _ hk => trivial)⟩, ⟨by repeat (first | (with_reducible first | exact HB.out | apply below_alloc | apply pw_below_drewN | apply below_drew1) | exact HB.out)⟩⟩
       ·rw [if_neg c11] at H;exact absurd H (by simp)
      ·rw [if_neg c10] at H;have c10b0 : (t105 == 2) = false := beq_eq_false_iff_ne.mpr c10
       have c10b1 : (t105 != 2) = true := bne_iff_ne.mpr c10
       by_cases c16 : t105 = 3
       ·rw [if_pos c16] at H;have c16b0 : (t105 == 3) = true := beq_iff_eq.mpr c16
        have c16b1 : (t105 != 3) = false := bne_eq_false_iff_eq.mpr c16
        clear c16;obtain ⟨y115, hy115⟩ : ∃ y_ : List Int, y_ = (([(wrap64 (224 + (wrap64 (Int.tdiv (wrap64 (rd l0 x4_1)) 4096)))) % 256, (wrap64 (128 + (Int.tmod (wrap64 (Int.tdiv (wrap64 (rd l0 x4_1)) 64)) 64))) % 256, (wrap64 (128 + (Int.tmod (wrap64 (rd l0 x4_1)) 64))) % 256] : List Int)) := ⟨_, rfl⟩
        replace H : (if x3_1.length + y115.length < 140737488355328 then (epitomeref01_Of.l0 k1 l0 (x3_1 ++ y115) (wrap64 (x4_1 + 1))) else (none)) = some r := by first | (rw [hy115]; with_reducible exact H) | (have H2_ := (Option.bind_some _ _).symm.trans H; rw [hy115]; with_reducible exact H2_) | (have H2_ := (Option.bind_some _ _).symm.trans H; with_reducible exact H2_) | with_reducible exact H | (rw [hy115]; exact H) | exact H
        have Ny115 := Am hy115;clear hy115;by_cases c17 : x3_1.length + y115.length < 140737488355328
        ·rw [if_pos c17] at H;have LMc17 := Am c17;clear c17;obtain ⟨y118, hy118⟩ : ∃ y_ : List Int, y_ = (x3_1 ++ y115) := ⟨_, rfl⟩
         replace H : (epitomeref01_Of.l0 k1 l0 y118 (wrap64 (x4_1 + 1))) = some r := by first | (rw [hy118]; with_reducible exact H) | (have H2_ := (Option.bind_some _ _).symm.trans H; rw [hy118]; with_reducible exact H2_) | (have H2_ := (Option.bind_some _ _).symm.trans H; with_reducible exact H2_) | with_reducible exact H | (rw [hy118]; exact H) | exact H
         have Ny118 := Am hy118;clear hy118;have H' := Am H
         clear H;have p104 : 0 ≤ (x4_1 : Int) := of_decide_eq_true (by first | (with_reducible assumption) | assumption)
         have q104 : x4_1 < (l0.length : Int) := of_decide_eq_true (by first | (with_reducible assumption) | assumption)
         obtain ⟨ad104, e104, hx104_0⟩ := Kd.at_int HR0.out x4_1 p104 q104
         cases e104
         replace hx104_0 := (HB.out.cell (World.block_lt_of_cell? w _ hx104_0)).trans hx104_0
         replace p104 := eq_true p104;replace q104 := eq_true q104;go_wp2_with (first | ((with_reducible refine gate_callee (f := 81) rfl ?_); refine goesL_ (some 19) rfl rfl Tryd.func81 (by kernel_rfl) rfl #[.int .i64 (wrap64 (rd l0 x4_1))] rfl (by (try simp only [List.map_toArray, List.map_cons, List.map_nil]); first | done | rfl | (simp only [List.length_drop, List.length_take]; rfl)) ?_; (with_reducible refine (epitomeref01_size.calls k1 (wrap64 (rd l0 x4_1)) t105 _ A6.out).mono ?_); rintro e w' ⟨rfl, ⟨nd, rfl⟩⟩; refine ⟨_, rfl, ?_⟩) | ((with_reducible refine gate_dst (N := 56) rfl ?_); refine R_lit (Kd.int .u8) _ 5 ?hg (N := 56) ?hd (xs := ([(wrap64 (224 + (wrap64 (Int.tdiv (wrap64 (rd l0 x4_1)) 4096)))) % 256, (wrap64 (128 + (Int.tmod (wrap64 (Int.tdiv (wrap64 (rd l0 x4_1)) 64)) 64))) % 256, (wrap64 (128 + (Int.tmod (wrap64 (rd l0 x4_1)) 64))) % 256] : List Int)) (inner := [.int .u8 ((wrap64 (224 + (wrap64 (Int.tdiv (wrap64 (rd l0 x4_1)) 4096)))) % 256), .int .u8 ((wrap64 (128 + (Int.tmod (wrap64 (Int.tdiv (wrap64 (rd l0 x4_1)) 64)) 64))) % 256), .int .u8 ((wrap64 (128 + (Int.tmod (wrap64 (rd l0 x4_1)) 64))) % 256)]) (ok := fun _ => True) (okp := fun _ => True) ?hr ?hp (fun _ hk => hk) trivial (Below.refl _ _) (Nat.le_refl _) (by simp) ?_; (case hd => rfl); (case hg => rfl); (case hr => first | (go_simp; done) | (go_simp; rfl)); (case hp => exact (Reps.one (show Kd.M (Kd.int .u8) _ _ _ ((wrap64 (224 + (wrap64 (Int.tdiv (wrap64 (rd l0 x4_1)) 4096)))) % 256) [.int .u8 ((wrap64 (224 + (wrap64 (Int.tdiv (wrap64 (rd l0 x4_1)) 4096)))) % 256)] from rfl) (Reps.one (show Kd.M (Kd.int .u8) _ _ _ ((wrap64 (128 + (Int.tmod (wrap64 (Int.tdiv (wrap64 (rd l0 x4_1)) 64)) 64))) % 256) [.int .u8 ((wrap64 (128 + (Int.tmod (wrap64 (Int.tdiv (wrap64 (rd l0 x4_1)) 64)) 64))) % 256)] from rfl) (Reps.one (show Kd.M (Kd.int .u8) _ _ _ ((wrap64 (128 + (Int.tmod (wrap64 (rd l0 x4_1)) 64))) % 256) [.int .u8 ((wrap64 (128 + (Int.tmod (wrap64 (rd l0 x4_1)) 64))) % 256)] from rfl) (Reps.none _ _))))); intro v116 w18 ho19 hb hg_ hnew_; clear hg_ hnew_; (first | rw [← Ny115.out] at ho19 | (simp only [Int.reduceToNat] at ho19; rw [← Ny115.out] at ho19)); have n0_ := Am (R_elder' (by (with_reducible repeat (first | apply R_alloc | apply R_drewN | apply R_drew)); exact HO_3.out) (R_base ho19) hb); have n1_ := Am (R_lower (R_new' ho19 (R_lt (by (with_reducible repeat (first | apply R_alloc | apply R_drewN | apply R_drew)); exact HO_3.out))) (below_size (by repeat (first | (with_reducible first | exact HB.out | apply below_alloc | apply pw_below_drewN | apply below_drew1) | exact HB.out)))); have n2_ := Am (below_step (by repeat (first | (with_reducible first | exact HB.out | apply below_alloc | apply pw_below_drewN | apply below_drew1) | exact HB.out)) hb); clear HO_3; clear HB; have HO_3 := n0_; have HO117 := n1_; have HB := n2_; clear n0_ n1_ n2_; clear hb ho19; obtain ⟨Ao21, co21, eo21⟩ := R_slice HO117.out; subst eo21) | ((with_reducible refine gate_builtin (b := .append) (xs := #[.tmp 42, .tmp 56]) rfl ?_); at_builtin; refine R_append_rows (Kd.int .u8) (w0 := w) w.heap.size rfl (.tmp 42) (.tmp 56) 98 5 (.int .u8 0) 1 rfl Tryd.underlying98 info5 rfl (by decide) (by omega) u3 x3_1 y115 _ _ _ (fun k_ => some k_ ≠ (.slice Ao21 y115.length co21 : Value).ownBlock) (fun _ => False) rfl rfl ?aO ?aR (fun _ _ h => h) (fun _ h => h.elim) ?aF ?aB ?aS ?aL ?_; (case aR => repeat (first | exact (R_reads' HO117.out).2.2 | (with_reducible refine C_alloc ?_ _) | (with_reducible refine C_drewN ?_ _) | (with_reducible refine C_drew ?_))); (case aB => exact (by repeat (first | (with_reducible first | exact HB.out | apply below_alloc | apply pw_below_drewN | apply below_drew1) | exact HB.out))); (case aF => exact (fun k_ hk => Kd.fresh' (R_lt (by (with_reducible repeat (first | apply R_alloc | apply R_drewN | apply R_drew)); exact HO117.out)) k_ hk)); (case aO => exact (by (with_reducible repeat (first | apply R_alloc | apply R_drewN | apply R_drew)); exact R_mono HO_3.out (fun _ hk => hk.2))); (case aS => exact (below_size (by repeat (first | (with_reducible first | exact HB.out | apply below_alloc | apply pw_below_drewN | apply below_drew1) | exact HB.out)))); (case aL => have := LMc17.out; omega); intro v119 w20 ho hb hg hat; rw [← Ny118.out] at ho; have n0_ := Am (R_after (ok := (fun _ => True)) (by (with_reducible repeat (first | apply R_alloc | apply R_drewN | apply R_drew)); exact HO117.out) hg hat); have n1_ := Am (hb); have n2_ := Am (ho); clear HO117; clear HB; clear HO_3; have HO117 := n0_; have HB := n1_; have HO120 := n2_; clear n0_ n1_ n2_; clear ho hb hg hat))
         go_roundg k1
         case measure => have := HK1.out; omega
         case rel => exact ⟨(y118), (wrap64 (x4_1 + 1)), (by first | rfl | (simp; done) | (simp [*]; done)), H', ⟨by have := HK1.out; omega⟩, ⟨by (with_reducible repeat (first | apply R_alloc | apply R_drewN | apply R_drew)); exact R_mono HO120.out (fun _ hk => trivial)⟩, ⟨by repeat (first | (with_reducible first | exact HB.out | apply below_alloc | apply pw_below_drewN | apply below_drew1) | exact HB.out)⟩⟩
        ·rw [if_neg c17] at H;exact absurd H (by simp)
       ·rw [if_neg c16] at H;have c16b0 : (t105 == 3) = false := beq_eq_false_iff_ne.mpr c16
        have c16b1 : (t105 != 3) = true := bne_iff_ne.mpr c16
        by_cases c22 : t105 = 4
        ·rw [if_pos c22] at H;have c22b0 : (t105 == 4) = true := beq_iff_eq.mpr c22
         have c22b1 : (t105 != 4) = false := bne_eq_false_iff_eq.mpr c22
         clear c22;obtain ⟨y121, hy121⟩ : ∃ y_ : List Int, y_ = (([(wrap64 (240 + (wrap64 (Int.tdiv (wrap64 (rd l0 x4_1)) 262144)))) % 256, (wrap64 (128 + (Int.tmod (wrap64 (Int.tdiv (wrap64 (rd l0 x4_1)) 4096)) 64))) % 256, (wrap64 (128 + (Int.tmod (wrap64 (Int.tdiv (wrap64 (rd l0 x4_1)) 64)) 64))) % 256, (wrap64 (128 + (Int.tmod (wrap64 (rd l0 x4_1)) 64))) % 256] : List Int)) := ⟨_, rfl⟩
         replace H : (if x3_1.length + y121.length < 140737488355328 then (epitomeref01_Of.l0 k1 l0 (x3_1 ++ y121) (wrap64 (x4_1 + 1))) else (none)) = some r := by first | (rw [hy121]; with_reducible exact H) | (have H2_ := (Option.bind_some _ _).symm.trans H; rw [hy121]; with_reducible exact H2_) | (have H2_ := (Option.bind_some _ _).symm.trans H; with_reducible exact H2_) | with_reducible exact H | (rw [hy121]; exact H) | exact H
         have Ny121 := Am hy121;clear hy121;by_cases c23 : x3_1.length + y121.length < 140737488355328
         ·rw [if_pos c23] at H;have LMc23 := Am c23;clear c23;obtain ⟨y124, hy124⟩ : ∃ y_ : List Int, y_ = (x3_1 ++ y121) := ⟨_, rfl⟩
          replace H : (epitomeref01_Of.l0 k1 l0 y124 (wrap64 (x4_1 + 1))) = some r := by first | (rw [hy124]; with_reducible exact H) | (have H2_ := (Option.bind_some _ _).symm.trans H; rw [hy124]; with_reducible exact H2_) | (have H2_ := (Option.bind_some _ _).symm.trans H; with_reducible exact H2_) | with_reducible exact H | (rw [hy124]; exact H) | exact H
          have Ny124 := Am hy124;clear hy124;have H' := Am H
          clear H;have p104 : 0 ≤ (x4_1 : Int) := of_decide_eq_true (by first | (with_reducible assumption) | assumption)
          have q104 : x4_1 < (l0.length : Int) := of_decide_eq_true (by first | (with_reducible assumption) | assumption)
          obtain ⟨ad104, e104, hx104_0⟩ := Kd.at_int HR0.out x4_1 p104 q104
          cases e104
          replace hx104_0 := (HB.out.cell (World.block_lt_of_cell? w _ hx104_0)).trans hx104_0
          replace p104 := eq_true p104;replace q104 := eq_true q104;go_wp2_with (first | ((with_reducible refine gate_callee (f := 81) rfl ?_); refine goesL_ (some 19) rfl rfl Tryd.func81 (by kernel_rfl) rfl #[.int .i64 (wrap64 (rd l0 x4_1))] rfl (by (try simp only [List.map_toArray, List.map_cons, List.map_nil]); first | done | rfl | (simp only [List.length_drop, List.length_take]; rfl)) ?_; (with_reducible refine (epitomeref01_size.calls k1 (wrap64 (rd l0 x4_1)) t105 _ A6.out).mono ?_); rintro e w' ⟨rfl, ⟨nd, rfl⟩⟩; refine ⟨_, rfl, ?_⟩) | ((with_reducible refine gate_dst (N := 79) rfl ?_); refine R_lit (Kd.int .u8) _ 5 ?hg (N := 79) ?hd (xs := ([(wrap64 (240 + (wrap64 (Int.tdiv (wrap64 (rd l0 x4_1)) 262144)))) % 256, (wrap64 (128 + (Int.tmod (wrap64 (Int.tdiv (wrap64 (rd l0 x4_1)) 4096)) 64))) % 256, (wrap64 (128 + (Int.tmod (wrap64 (Int.tdiv (wrap64 (rd l0 x4_1)) 64)) 64))) % 256, (wrap64 (128 + (Int.tmod (wrap64 (rd l0 x4_1)) 64))) % 256] : List Int)) (inner := [.int .u8 ((wrap64 (240 + (wrap64 (Int.tdiv (wrap64 (rd l0 x4_1)) 262144)))) % 256), .int .u8 ((wrap64 (128 + (Int.tmod (wrap64 (Int.tdiv (wrap64 (rd l0 x4_1)) 4096)) 64))) % 256), .int .u8 ((wrap64 (128 + (Int.tmod (wrap64 (Int.tdiv (wrap64 (rd l0 x4_1)) 64)) 64))) % 256), .int .u8 ((wrap64 (128 + (Int.tmod (wrap64 (rd l0 x4_1)) 64))) % 256)]) (ok := fun _ => True) (okp := fun _ => True) ?hr ?hp (fun _ hk => hk) trivial (Below.refl _ _) (Nat.le_refl _) (by simp) ?_; (case hd => rfl); (case hg => rfl); (case hr => first | (go_simp; done) | (go_simp; rfl)); (case hp => exact (Reps.one (show Kd.M (Kd.int .u8) _ _ _ ((wrap64 (240 + (wrap64 (Int.tdiv (wrap64 (rd l0 x4_1)) 262144)))) % 256) [.int .u8 ((wrap64 (240 + (wrap64 (Int.tdiv (wrap64 (rd l0 x4_1)) 262144)))) % 256)] from rfl) (Reps.one (show Kd.M (Kd.int .u8) _ _ _ ((wrap64 (128 + (Int.tmod (wrap64 (Int.tdiv (wrap64 (rd l0 x4_1)) 4096)) 64))) % 256) [.int .u8 ((wrap64 (128 + (Int.tmod (wrap64 (Int.tdiv (wrap64 (rd l0 x4_1)) 4096)) 64))) % 256)] from rfl) (Reps.one (show Kd.M (Kd.int .u8) _ _ _ ((wrap64 (128 + (Int.tmod (wrap64 (Int.tdiv (wrap64 (rd l0 x4_1)) 64)) 64))) % 256) [.int .u8 ((wrap64 (128 + (Int.tmod (wrap64 (Int.tdiv (wrap64 (rd l0 x4_1)) 64)) 64))) % 256)] from rfl) (Reps.one (show Kd.M (Kd.int .u8) _ _ _ ((wrap64 (128 + (Int.tmod (wrap64 (rd l0 x4_1)) 64))) % 256) [.int .u8 ((wrap64 (128 + (Int.tmod (wrap64 (rd l0 x4_1)) 64))) % 256)] from rfl) (Reps.none _ _)))))); intro v122 w24 ho25 hb hg_ hnew_; clear hg_ hnew_; (first | rw [← Ny121.out] at ho25 | (simp only [Int.reduceToNat] at ho25; rw [← Ny121.out] at ho25)); have n0_ := Am (R_elder' (by (with_reducible repeat (first | apply R_alloc | apply R_drewN | apply R_drew)); exact HO_3.out) (R_base ho25) hb); have n1_ := Am (R_lower (R_new' ho25 (R_lt (by (with_reducible repeat (first | apply R_alloc | apply R_drewN | apply R_drew)); exact HO_3.out))) (below_size (by repeat (first | (with_reducible first | exact HB.out | apply below_alloc | apply pw_below_drewN | apply below_drew1) | exact HB.out)))); have n2_ := Am (below_step (by repeat (first | (with_reducible first | exact HB.out | apply below_alloc | apply pw_below_drewN | apply below_drew1) | exact HB.out)) hb); clear HO_3; clear HB; have HO_3 := n0_; have HO123 := n1_; have HB := n2_; clear n0_ n1_ n2_; clear hb ho25; obtain ⟨Ao27, co27, eo27⟩ := R_slice HO123.out; subst eo27) | ((with_reducible refine gate_builtin (b := .append) (xs := #[.tmp 60, .tmp 79]) rfl ?_); at_builtin; refine R_append_rows (Kd.int .u8) (w0 := w) w.heap.size rfl (.tmp 60) (.tmp 79) 98 5 (.int .u8 0) 1 rfl Tryd.underlying98 info5 rfl (by decide) (by omega) u3 x3_1 y121 _ _ _ (fun k_ => some k_ ≠ (.slice Ao27 y121.length co27 : Value).ownBlock) (fun _ => False) rfl rfl ?aO ?aR (fun _ _ h => h) (fun _ h => h.elim) ?aF ?aB ?aS ?aL ?_; (case aR => repeat (first | exact (R_reads' HO123.out).2.2 | (with_reducible refine C_alloc ?_ _) | (with_reducible refine C_drewN ?_ _) | (with_reducible refine C_drew ?_))); (case aB => exact (by repeat (first | (with_reducible first | exact HB.out | apply below_alloc | apply pw_below_drewN | apply below_drew1) | exact HB.out))); (case aF => exact (fun k_ hk => Kd.fresh' (R_lt (by (with_reducible repeat (first | apply R_alloc | apply R_drewN | apply R_drew)); exact HO123.out)) k_ hk)); (case aO => exact (by (with_reducible repeat (first | apply R_alloc | apply R_drewN | apply R_drew)); exact R_mono HO_3.out (fun _ hk => hk.2))); (case aS => exact (below_size (by repeat (first | (with_reducible first | exact HB.out | apply below_alloc | apply pw_below_drewN | apply below_drew1) | exact HB.out)))); (case aL => have := LMc23.out; omega); intro v125 w26 ho hb hg hat; rw [← Ny124.out] at ho; have n0_ := Am (R_after (ok := (fun _ => True)) (by (with_reducible repeat (first | apply R_alloc | apply R_drewN | apply R_drew)); exact HO123.out) hg hat); have n1_ := Am (hb); have n2_ := Am (ho); clear HO123; clear HB; clear HO_3; have HO123 := n0_; have HB := n1_; have HO126 := n2_; clear n0_ n1_ n2_; clear ho hb hg hat))
          go_roundg k1
          case measure => have := HK1.out; omega
          case rel => exact ⟨(y124), (wrap64 (x4_1 + 1)), (by first | rfl | (simp; done) | (simp [*]; done)), H', ⟨by have := HK1.out; omega⟩, ⟨by (with_reducible repeat (first | apply R_alloc | apply R_drewN | apply R_drew)); exact R_mono HO126.out (fun _ hk => trivial)⟩, ⟨by repeat (first | (with_reducible first | exact HB.out | apply below_alloc | apply pw_below_drewN | apply below_drew1) | exact HB.out)⟩⟩
         ·rw [if_neg c23] at H;exact absurd H (by simp)
        ·rw [if_neg c22] at H;have c22b0 : (t105 == 4) = false := beq_eq_false_iff_ne.mpr c22
         have c22b1 : (t105 != 4) = true := bne_iff_ne.mpr c22
         have H' := Am H
         clear H;have p104 : 0 ≤ (x4_1 : Int) := of_decide_eq_true (by first | (with_reducible assumption) | assumption)
         have q104 : x4_1 < (l0.length : Int) := of_decide_eq_true (by first | (with_reducible assumption) | assumption)
         obtain ⟨ad104, e104, hx104_0⟩ := Kd.at_int HR0.out x4_1 p104 q104
         cases e104
         replace hx104_0 := (HB.out.cell (World.block_lt_of_cell? w _ hx104_0)).trans hx104_0
         replace p104 := eq_true p104;replace q104 := eq_true q104;go_wp2_with (first | ((with_reducible refine gate_callee (f := 81) rfl ?_); refine goesL_ (some 19) rfl rfl Tryd.func81 (by kernel_rfl) rfl #[.int .i64 (wrap64 (rd l0 x4_1))] rfl (by (try simp only [List.map_toArray, List.map_cons, List.map_nil]); first | done | rfl | (simp only [List.length_drop, List.length_take]; rfl)) ?_; (with_reducible refine (epitomeref01_size.calls k1 (wrap64 (rd l0 x4_1)) t105 _ A6.out).mono ?_); rintro e w' ⟨rfl, ⟨nd, rfl⟩⟩; refine ⟨_, rfl, ?_⟩))
         go_roundg k1
         case measure => have := HK1.out; omega
         case rel => exact ⟨(x3_1), (wrap64 (x4_1 + 1)), (by first | rfl | (simp; done) | (simp [*]; done)), H', ⟨by have := HK1.out; omega⟩, ⟨by (with_reducible repeat (first | apply R_alloc | apply R_drewN | apply R_drew)); exact HO_3.out⟩, ⟨by repeat (first | (with_reducible first | exact HB.out | apply below_alloc | apply pw_below_drewN | apply below_drew1) | exact HB.out)⟩⟩
    ·rw [if_neg c5] at H;exact absurd H (by simp)
   ·rw [if_neg c4] at H;have c4b0 : decide (x4_1 < (l0.length : Int)) = false := decide_eq_false c4
    clear c4;obtain rfl := Option.some.inj H;have hcv28 := own_string (P := Tryd.prog) Tryd.underlying98 Tryd.underlying5 Tryd.underlying9 (Kd.own_of_R HO_3.out)
    go_wp2
    go_ret
    exact ⟨by first | rfl | (simp [errW_none, errW_some] <;> rfl) | (simp [*, errW_none, errW_some] <;> rfl), by repeat (first | (with_reducible first | exact HB.out | apply below_alloc | apply pw_below_drewN | apply below_drew1) | exact HB.out)⟩
end Go.Proofs.YtkefbljogjcodaaDoor.F
end
section
namespace Go.Proofs.YtkefbljogjcodaaDoor.F
open Go.RowKit Go.Proofs.YtkefbljogjcodaaDoorW.PrintWords Go.Proofs.YtkefbljogjcodaaDoorW.PrintLast Go.Proofs.YtkefbljogjcodaaDoorW.PrintMore
attribute [local go_sem] max2_int min2_int max_two min_two max_three min_three max_four min_four cell_setCell_isSome
set_option linter.unusedVariables false
set_option linter.unusedSimpArgs false
open Kd
def epitomeref01_Fit.l0 : Nat → ByteArray → List Int → Int → Int → Int → Int → Int → Int → Int → Int → Int → Option (ByteArray)
  | 0, _, _, _, _, _, _, _, _, _, _, _ => none
  | k + 1, x0, x4, x5, x102000, x102001, x102002, x102003, x102004, x102005, x102006, x102007 => if x5 < (x0.size : Int) then (if 0 ≤ x5 then ((fit_rune.f x102000 x102001 x102002 x102003 x102004 x102005 x102006 x102007 (Int.tmod (bt x0 x5) 8)).bind fun t105 => (if x4.length < 35184372088832 then (epitomeref01_Fit.l0 k x0 (x4 ++ [t105]) (wrap64 (x5 + 1)) x102000 x102001 x102002 x102003 x102004 x102005 x102006 x102007) else (none))) else (none)) else ((epitomeref01_Of.f k x4).bind fun t109 => (some t109))
def epitomeref01_Fit.f (k : Nat) (a0 : ByteArray) : Option (ByteArray) := epitomeref01_Fit.l0 k a0 (([] : List Int)) 0 97 98 99 120 121 233 8364 128512
theorem epitomeref01_Fit.mono_l : ∀ k, (∀ y0 y1 y2 y3 y4 y5 y6 y7 y8 y9 y10, LeO (epitomeref01_Fit.l0 k y0 y1 y2 y3 y4 y5 y6 y7 y8 y9 y10) (epitomeref01_Fit.l0 (k + 1) y0 y1 y2 y3 y4 y5 y6 y7 y8 y9 y10))
  | 0 => fun _ _ _ _ _ _ _ _ _ _ _ r h => by simp [epitomeref01_Fit.l0] at h
  | k + 1 => by
    have ih0 := epitomeref01_Fit.mono_l k
    · intro y0 y1 y2 y3 y4 y5 y6 y7 y8 y9 y10
      unfold epitomeref01_Fit.l0
      repeat' first
      | (with_reducible exact ih0 _ _ _ _ _ _ _ _ _ _ _)
      | (with_reducible exact epitomeref01_Of.mono _ _)
      | (with_reducible exact LeO.refl _)
      | (with_reducible exact LeO.none _)
      | (with_reducible refine LeO.ite ?_ ?_)
      | (with_reducible refine LeO.bind ?_ (fun _ => ?_))
      | exact ih0 _ _ _ _ _ _ _ _ _ _ _
      | exact epitomeref01_Of.mono _ _
      | exact LeO.none _
      | refine LeO.ite ?_ ?_
      | refine LeO.bind ?_ (fun _ => ?_)
theorem epitomeref01_Fit.mono : ∀ a0 k, LeO (epitomeref01_Fit.f k a0) (epitomeref01_Fit.f (k + 1) a0) := by
  intro a0 k
  have ih0 := epitomeref01_Fit.mono_l k
  unfold epitomeref01_Fit.f
  repeat' first
      | (with_reducible exact ih0 _ _ _ _ _ _ _ _ _ _ _)
      | (with_reducible exact epitomeref01_Of.mono _ _)
      | (with_reducible exact LeO.refl _)
      | (with_reducible exact LeO.none _)
      | (with_reducible refine LeO.ite ?_ ?_)
      | (with_reducible refine LeO.bind ?_ (fun _ => ?_))
      | exact ih0 _ _ _ _ _ _ _ _ _ _ _
      | exact epitomeref01_Of.mono _ _
      | exact LeO.none _
      | refine LeO.ite ?_ ?_
      | refine LeO.bind ?_ (fun _ => ?_)
set_option maxHeartbeats 8000000 in
set_option maxRecDepth 100000 in
theorem epitomeref01_Fit.calls (k : Nat) (a0 : ByteArray) (r : ByteArray) (w : World) (h : epitomeref01_Fit.f k a0 = some r) :
  Calls Tryd.prog 14 #[.string a0] w fun e w' => e = .returned (.string r) ∧ Below w.heap.size w w' := by
 have hu62 := Tryd.underlying62
 have HB := Am (Below.refl w.heap.size w)
 have H : (epitomeref01_Fit.l0 k a0 (([] : List Int)) 0 97 98 99 120 121 233 8364 128512) = some r := h
 clear h;obtain ⟨y102, hy102⟩ : ∃ y_ : List Int, y_ = (([] : List Int)) := ⟨_, rfl⟩
 replace H : (epitomeref01_Fit.l0 k a0 y102 0 97 98 99 120 121 233 8364 128512) = some r := by first | (rw [hy102]; with_reducible exact H) | (have H2_ := (Option.bind_some _ _).symm.trans H; rw [hy102]; with_reducible exact H2_) | (have H2_ := (Option.bind_some _ _).symm.trans H; with_reducible exact H2_) | with_reducible exact H | (rw [hy102]; exact H) | exact H
 have Ny102 := Am hy102;clear hy102;have H' := Am H
 clear H;go_enter Tryd.func14, Tryd.ntmps14
 go_wp2_with (first | ((with_reducible refine gate_dst (N := 3) rfl ?_); refine box_event ?hg (N := 3) ?hd (cs := #[.int .i32 0, .int .i32 0, .int .i32 0, .int .i32 0, .int .i32 0, .int .i32 0, .int .i32 0, .int .i32 0]) (t := 62) ?hr ?_; (case hd => rfl); (case hg => rfl); (case hr => first | (go_simp; done) | (go_simp; rfl)); intro gb101 hg w2 hbox hb; have n0_ := Am (below_step (by repeat (first | (with_reducible first | exact HB.out | apply below_alloc | apply pw_below_drewN | apply below_drew1) | exact HB.out)) hb); have n1_ := Am (hbox); have n2_ := Am ((by rw [hg]; exact (below_size (by repeat (first | (with_reducible first | exact HB.out | apply below_alloc | apply pw_below_drewN | apply below_drew1) | exact HB.out))) : w.heap.size ≤ gb101)); have n3_ := Am ((by rw [hg]; exact (below_size (by repeat (first | (with_reducible first | exact HB.out | apply below_alloc | apply pw_below_drewN | apply below_drew1) | exact HB.out))) : w.heap.size ≤ gb101)); clear HB; have HB := n0_; have BK101 := n1_; have GW101 := n2_; have GE101 := n3_; clear n0_ n1_ n2_ n3_; clear hb hbox hg; have hcz3_0 : w2.cell? ⟨gb101, 0, none⟩ = some (.int .i32 0) := (blk_cell BK101.out 0).trans rfl; have hcz3_1 : w2.cell? ⟨gb101, 1, none⟩ = some (.int .i32 0) := (blk_cell BK101.out 1).trans rfl; have hcz3_2 : w2.cell? ⟨gb101, 2, none⟩ = some (.int .i32 0) := (blk_cell BK101.out 2).trans rfl; have hcz3_3 : w2.cell? ⟨gb101, 3, none⟩ = some (.int .i32 0) := (blk_cell BK101.out 3).trans rfl; have hcz3_4 : w2.cell? ⟨gb101, 4, none⟩ = some (.int .i32 0) := (blk_cell BK101.out 4).trans rfl; have hcz3_5 : w2.cell? ⟨gb101, 5, none⟩ = some (.int .i32 0) := (blk_cell BK101.out 5).trans rfl; have hcz3_6 : w2.cell? ⟨gb101, 6, none⟩ = some (.int .i32 0) := (blk_cell BK101.out 6).trans rfl; have hcz3_7 : w2.cell? ⟨gb101, 7, none⟩ = some (.int .i32 0) := (blk_cell BK101.out 7).trans rfl; have hfz3_0 := blk_frozen BK101.out 0; have hfz3_1 := blk_frozen BK101.out 1; have hfz3_2 := blk_frozen BK101.out 2; have hfz3_3 := blk_frozen BK101.out 3; have hfz3_4 := blk_frozen BK101.out 4; have hfz3_5 := blk_frozen BK101.out 5; have hfz3_6 := blk_frozen BK101.out 6; have hfz3_7 := blk_frozen BK101.out 7) | ((with_reducible refine gate_dst (N := 7) rfl ?_); refine R_lit (Kd.int .i32) _ 21 ?hg (N := 7) ?hd (xs := ([] : List Int)) (inner := []) (ok := fun _ => True) (okp := fun _ => True) ?hr ?hp (fun _ hk => hk) trivial (Below.refl _ _) (Nat.le_refl _) (by simp) ?_; (case hd => rfl); (case hg => rfl); (case hr => first | (go_simp; done) | (go_simp; rfl)); (case hp => exact (Reps.none _ _)); intro v103 w4 ho5 hb hg_ hnew_; clear hg_ hnew_; (first | rw [← Ny102.out] at ho5 | (simp only [Int.reduceToNat] at ho5; rw [← Ny102.out] at ho5)); have n0_ := Am (R_lower ho5 (below_size (by repeat (first | (with_reducible first | exact HB.out | apply below_alloc | apply pw_below_drewN | apply below_drew1 | refine below_set ?_ GE101.out) | exact HB.out)))); have n1_ := Am (blk_below (g := gb101) (o := .cells #[.int .i32 97, .int .i32 98, .int .i32 99, .int .i32 120, .int .i32 121, .int .i32 233, .int .i32 8364, .int .i32 128512] 62 (0, 0)) (by (with_reducible repeat (first | refine blk_drewN ?_ _ | refine blk_drew ?_ | refine blk_alloc ?_ _)); refine blk_put (cs := #[.int .i32 97, .int .i32 98, .int .i32 99, .int .i32 120, .int .i32 121, .int .i32 233, .int .i32 8364, .int .i32 0]) ?_ 7 _ rfl; (with_reducible repeat (first | refine blk_drewN ?_ _ | refine blk_drew ?_ | refine blk_alloc ?_ _)); refine blk_put (cs := #[.int .i32 97, .int .i32 98, .int .i32 99, .int .i32 120, .int .i32 121, .int .i32 233, .int .i32 0, .int .i32 0]) ?_ 6 _ rfl; (with_reducible repeat (first | refine blk_drewN ?_ _ | refine blk_drew ?_ | refine blk_alloc ?_ _)); refine blk_put (cs := #[.int .i32 97, .int .i32 98, .int .i32 99, .int .i32 120, .int .i32 121, .int .i32 0, .int .i32 0, .int .i32 0]) ?_ 5 _ rfl; (with_reducible repeat (first | refine blk_drewN ?_ _ | refine blk_drew ?_ | refine blk_alloc ?_ _)); refine blk_put (cs := #[.int .i32 97, .int .i32 98, .int .i32 99, .int .i32 120, .int .i32 0, .int .i32 0, .int .i32 0, .int .i32 0]) ?_ 4 _ rfl; (with_reducible repeat (first | refine blk_drewN ?_ _ | refine blk_drew ?_ | refine blk_alloc ?_ _)); refine blk_put (cs := #[.int .i32 97, .int .i32 98, .int .i32 99, .int .i32 0, .int .i32 0, .int .i32 0, .int .i32 0, .int .i32 0]) ?_ 3 _ rfl; (with_reducible repeat (first | refine blk_drewN ?_ _ | refine blk_drew ?_ | refine blk_alloc ?_ _)); refine blk_put (cs := #[.int .i32 97, .int .i32 98, .int .i32 0, .int .i32 0, .int .i32 0, .int .i32 0, .int .i32 0, .int .i32 0]) ?_ 2 _ rfl; (with_reducible repeat (first | refine blk_drewN ?_ _ | refine blk_drew ?_ | refine blk_alloc ?_ _)); refine blk_put (cs := #[.int .i32 97, .int .i32 0, .int .i32 0, .int .i32 0, .int .i32 0, .int .i32 0, .int .i32 0, .int .i32 0]) ?_ 1 _ rfl; (with_reducible repeat (first | refine blk_drewN ?_ _ | refine blk_drew ?_ | refine blk_alloc ?_ _)); refine blk_put (cs := #[.int .i32 0, .int .i32 0, .int .i32 0, .int .i32 0, .int .i32 0, .int .i32 0, .int .i32 0, .int .i32 0]) ?_ 0 _ rfl; (with_reducible repeat (first | refine blk_drewN ?_ _ | refine blk_drew ?_ | refine blk_alloc ?_ _)); exact BK101.out) hb); have n2_ := Am (below_step (by repeat (first | (with_reducible first | exact HB.out | apply below_alloc | apply pw_below_drewN | apply below_drew1 | refine below_set ?_ GE101.out) | exact HB.out)) hb); clear BK101; clear HB; have HO104 := n0_; have BK101 := n1_; have HB := n2_; clear n0_ n1_ n2_; clear hb ho5))
 go_loopg [4, 5] k (fun kq v4 v5 w' => ∃ (x4_1 : List Int) (x5_1 : Int), v5 = .int .i64 x5_1 ∧ Aside0 (epitomeref01_Fit.l0 kq a0 x4_1 x5_1 97 98 99 120 121 233 8364 128512 = some r) ∧ Aside0 (kq ≤ k) ∧ Aside0 (Kd.R (Kd.int .i32) 21 w' w.heap.size (fun _ => True) v4 x4_1) ∧ Aside0 (w'.heap[gb101]? = some (.cells #[.int .i32 97, .int .i32 98, .int .i32 99, .int .i32 120, .int .i32 121, .int .i32 233, .int .i32 8364, .int .i32 128512] 62 (0, 0))) ∧ Aside0 (Below w.heap.size w w'))
 case atStart => exact ⟨(y102), (0), (by first | rfl | (simp; done) | (simp [*]; done)), H', ⟨Nat.le_refl _⟩, ⟨by (with_reducible repeat (first | apply R_alloc | apply R_drewN | apply R_drew)); exact HO104.out⟩, ⟨by (with_reducible repeat (first | refine blk_drewN ?_ _ | refine blk_drew ?_ | refine blk_alloc ?_ _)); exact BK101.out⟩, ⟨by repeat (first | (with_reducible first | exact HB.out | apply below_alloc | apply pw_below_drewN | apply below_drew1 | refine below_set ?_ GE101.out) | exact HB.out)⟩⟩
 case round =>
  clear H';(try clear c1);(try clear p2);(try clear hcz3_0);(try clear hcz3_1);(try clear hcz3_2);(try clear hcz3_3);(try clear hcz3_4);(try clear hcz3_5);(try clear hcz3_6);(try clear hcz3_7);(try clear hfz3_0);(try clear hfz3_1);(try clear hfz3_2);(try clear hfz3_3);(try clear hfz3_4);(try clear hfz3_5);(try clear hfz3_6);(try clear hfz3_7);obtain ⟨x4_1, x5_1, rfl, HA, HK1, HO_4, BK101, HB⟩ := hrel
  cases gk with
  | zero => exact absurd HA.out (by simp [epitomeref01_Fit.l0])
  | succ k1 =>
   have H := HA.out;clear HA;simp only [epitomeref01_Fit.l0] at H
   by_cases c6 : x5_1 < (a0.size : Int)
   ·rw [if_pos c6] at H;have c6b0 : decide (x5_1 < (a0.size : Int)) = true := decide_eq_true c6
    clear c6;by_cases c7 : 0 ≤ x5_1
    ·rw [if_pos c7] at H;have c7b0 : decide (0 ≤ x5_1) = true := decide_eq_true c7
     clear c7;replace H := Option.bind_eq_some_iff.mp H;obtain ⟨t105, A90, H⟩ := H;have A9 := Am A90;clear A90;by_cases c10 : x4_1.length < 35184372088832
     ·rw [if_pos c10] at H;have LMc10 := Am c10;clear c10;obtain ⟨y106, hy106⟩ : ∃ y_ : List Int, y_ = (x4_1 ++ [t105]) := ⟨_, rfl⟩
      replace H : (epitomeref01_Fit.l0 k1 a0 y106 (wrap64 (x5_1 + 1)) 97 98 99 120 121 233 8364 128512) = some r := by first | (rw [hy106]; with_reducible exact H) | (have H2_ := (Option.bind_some _ _).symm.trans H; rw [hy106]; with_reducible exact H2_) | (have H2_ := (Option.bind_some _ _).symm.trans H; with_reducible exact H2_) | with_reducible exact H | (rw [hy106]; exact H) | exact H
      have Ny106 := Am hy106;clear hy106;have H' := Am H
      clear H;have p8 : 0 ≤ (x5_1 : Int) := of_decide_eq_true (by first | (with_reducible assumption) | assumption)
      have q8 : x5_1 < (a0.size : Int) := of_decide_eq_true (by first | (with_reducible assumption) | assumption)
      have hx8 := bt_at a0 x5_1
      replace p8 := eq_true p8;replace q8 := eq_true q8;have hcz11_0 : wr.cell? ⟨gb101, 0, none⟩ = some (.int .i32 97) := (blk_cell BK101.out 0).trans rfl
      have hcz11_1 : wr.cell? ⟨gb101, 1, none⟩ = some (.int .i32 98) := (blk_cell BK101.out 1).trans rfl
      have hcz11_2 : wr.cell? ⟨gb101, 2, none⟩ = some (.int .i32 99) := (blk_cell BK101.out 2).trans rfl
      have hcz11_3 : wr.cell? ⟨gb101, 3, none⟩ = some (.int .i32 120) := (blk_cell BK101.out 3).trans rfl
      have hcz11_4 : wr.cell? ⟨gb101, 4, none⟩ = some (.int .i32 121) := (blk_cell BK101.out 4).trans rfl
      have hcz11_5 : wr.cell? ⟨gb101, 5, none⟩ = some (.int .i32 233) := (blk_cell BK101.out 5).trans rfl
      have hcz11_6 : wr.cell? ⟨gb101, 6, none⟩ = some (.int .i32 8364) := (blk_cell BK101.out 6).trans rfl
      have hcz11_7 : wr.cell? ⟨gb101, 7, none⟩ = some (.int .i32 128512) := (blk_cell BK101.out 7).trans rfl
      have hfz11_0 := blk_frozen BK101.out 0;have hfz11_1 := blk_frozen BK101.out 1;have hfz11_2 := blk_frozen BK101.out 2;have hfz11_3 := blk_frozen BK101.out 3;have hfz11_4 := blk_frozen BK101.out 4;have hfz11_5 := blk_frozen BK101.out 5;have hfz11_6 := blk_frozen BK101.out 6;have hfz11_7 := blk_frozen BK101.out 7;have f8b := rem8 (bt a0 x5_1) (bt_nonneg _ _)
      have f8c := fit_cell BK101.out A9.out
      have f8p := eq_true f8b.1
      have f8q := eq_true f8b.2
      have huA := Tryd.underlying62
      clear f8b;go_wp2_with (first | ((with_reducible refine gate_builtin (b := .append) (xs := #[.tmp 14, .tmp 21]) rfl ?_); at_builtin; refine R_append (Kd.int .i32) (w0 := w) w.heap.size rfl (.tmp 14) (.tmp 21) 63 21 (.int .i32 0) 4 rfl Tryd.underlying63 info21 rfl (by decide) (by omega) u4 x4_1 t105 [.int .i32 t105] (fun _ => True) (fun _ => False) rfl rfl ?aP (fun _ hk => hk.elim) ?aF ?aO ?aB ?aS ?aL ?_; (case aP => exact rfl); (case aB => exact (by repeat (first | (with_reducible first | exact HB.out | apply below_alloc | apply pw_below_drewN | apply below_drew1 | refine below_set ?_ GE101.out) | exact HB.out))); (case aF => exact (fun _ _ => trivial)); (case aO => exact (by (with_reducible repeat (first | apply R_alloc | apply R_drewN | apply R_drew)); exact HO_4.out)); (case aS => exact (below_size (by repeat (first | (with_reducible first | exact HB.out | apply below_alloc | apply pw_below_drewN | apply below_drew1 | refine below_set ?_ GE101.out) | exact HB.out)))); (case aL => have := LMc10.out; omega); intro v107 w13 ho hb hg hat; rw [← Ny106.out] at ho; have n0_ := Am (blk_grown (g := gb101) (o := .cells #[.int .i32 97, .int .i32 98, .int .i32 99, .int .i32 120, .int .i32 121, .int .i32 233, .int .i32 8364, .int .i32 128512] 62 (0, 0)) (by (with_reducible repeat (first | refine blk_drewN ?_ _ | refine blk_drew ?_ | refine blk_alloc ?_ _)); exact BK101.out) hg (R_ne HO_4.out BK101.out (by decide))); have n1_ := Am (hb); have n2_ := Am (ho); clear BK101; clear HB; clear HO_4; have BK101 := n0_; have HB := n1_; have HO108 := n2_; clear n0_ n1_ n2_; clear ho hb hg hat))
      go_roundg k1
      case measure => have := HK1.out; omega
      case rel => exact ⟨(y106), (wrap64 (x5_1 + 1)), (by first | rfl | (simp; done) | (simp [*]; done)), H', ⟨by have := HK1.out; omega⟩, ⟨by (with_reducible repeat (first | apply R_alloc | apply R_drewN | apply R_drew)); exact HO108.out⟩, ⟨by (with_reducible repeat (first | refine blk_drewN ?_ _ | refine blk_drew ?_ | refine blk_alloc ?_ _)); exact BK101.out⟩, ⟨by repeat (first | (with_reducible first | exact HB.out | apply below_alloc | apply pw_below_drewN | apply below_drew1 | refine below_set ?_ GE101.out) | exact HB.out)⟩⟩
     ·rw [if_neg c10] at H;exact absurd H (by simp)
    ·rw [if_neg c7] at H;exact absurd H (by simp)
   ·rw [if_neg c6] at H;have c6b0 : decide (x5_1 < (a0.size : Int)) = false := decide_eq_false c6
    clear c6;replace H := Option.bind_eq_some_iff.mp H;obtain ⟨t109, A140, H⟩ := H;replace H : (some t109) = some r := H
    have A14 := Am A140;clear A140;obtain rfl := Option.some.inj H;obtain ⟨Ao15, co15, eo15⟩ := R_slice HO_4.out
    subst eo15
    go_wp2_with (first | ((with_reducible refine gate_callee (f := 46) rfl ?_); refine goesL_ (some 24) rfl rfl Tryd.func46 (by kernel_rfl) rfl #[.slice Ao15 x4_1.length co15] rfl (by (try simp only [List.map_toArray, List.map_cons, List.map_nil]); first | done | rfl | (simp only [List.length_drop, List.length_take]; rfl)) ?_; (with_reducible refine (epitomeref01_Of.calls k1 _ _ x4_1 t109 _ ?side1 ?side2 A14.out).mono ?_); (case side1 => repeat (first | exact (R_reads' HO_4.out).2.2 | (with_reducible refine C_alloc ?_ _) | (with_reducible refine C_drewN ?_ _) | (with_reducible refine C_drew ?_))); (case side2 => exact (R_reads' HO_4.out).2.1); rintro e w16 ⟨rfl, hb⟩; refine ⟨_, rfl, ?_⟩; have n0_ := Am (R_below (by (with_reducible repeat (first | apply R_alloc | apply R_drewN | apply R_drew)); exact HO_4.out) hb); have n1_ := Am (blk_below (g := gb101) (o := .cells #[.int .i32 97, .int .i32 98, .int .i32 99, .int .i32 120, .int .i32 121, .int .i32 233, .int .i32 8364, .int .i32 128512] 62 (0, 0)) (by (with_reducible repeat (first | refine blk_drewN ?_ _ | refine blk_drew ?_ | refine blk_alloc ?_ _)); exact BK101.out) hb); have n2_ := Am (below_step (by repeat (first | (with_reducible first | exact HB.out | apply below_alloc | apply pw_below_drewN | apply below_drew1 | refine below_set ?_ GE101.out) | exact HB.out)) hb); clear HO_4; clear BK101; clear HB; have HO_4 := n0_; have BK101 := n1_; have HB := n2_; clear n0_ n1_ n2_; (try clear hb)))
    go_ret
    exact ⟨by first | rfl | (simp [errW_none, errW_some] <;> rfl) | (simp [*, errW_none, errW_some] <;> rfl), by repeat (first | (with_reducible first | exact HB.out | apply below_alloc | apply pw_below_drewN | apply below_drew1 | refine below_set ?_ GE101.out) | exact HB.out)⟩
end Go.Proofs.YtkefbljogjcodaaDoor.F
end
