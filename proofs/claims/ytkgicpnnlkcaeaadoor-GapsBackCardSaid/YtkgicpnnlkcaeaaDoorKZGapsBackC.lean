import Derived.Test.YtkgicpnnlkcaeaaDoorKZGapsBackB
import Derived.Below
import Derived.Deep.Draws
import Derived.Deep.AppendLies
import Derived.Maps.AppendAt
import Derived.OwnWalk
import Derived.Laws.BytesArg
import Derived.Laws.MakeOwn
import Derived.Laws.OwnMore
import Derived.Deep.OwnRows
import Derived.Tactics
import Derived.Lib.ConvBytes
import Derived.Laws.Slices
import Derived.WalkKit
import Derived.KernelRfl
import Derived.RowKit3
import Derived.Deep.LoopGhost
import Derived.Deep.QuietTactic
import Derived.BigQuiet
import Derived.WideLaws
import Derived.Deep.DeepCutAuto
import Derived.Deep.CutBlock
import Derived.Deep.RegionHeld3
import Derived.Laws.Rows
import Derived.Lib.AppendStr
import Derived.ArgAppend
import Derived.Laws.IdiomCopy
import Derived.RowKit
import Derived.OrdersHeld
import Derived.Laws.BitsLemmas
import Derived.Laws.StructEq
import Derived.Test.YtkgicpnnlkcaeaaDoorProg
import Derived.Handy
import Derived.Shelf.Unicode.DecodeSlow
import Derived.Ground.NamesProg
import Derived.Shelf.Unicode.ValidAny
import Derived.Maps.OwnOps
import Derived.Maps.Views
section
namespace Go.Proofs.YtkgicpnnlkcaeaaDoor.F
open Go.RowKit Go.Proofs.YtkgicpnnlkcaeaaDoorW.PrintWords Go.Proofs.YtkgicpnnlkcaeaaDoorW.PrintLast Go.Proofs.YtkgicpnnlkcaeaaDoorW.PrintMore
attribute [local go_sem] max2_int min2_int max_two min_two max_three min_three max_four min_four cell_setCell_isSome
set_option linter.unusedVariables false
set_option linter.unusedSimpArgs false
mutual
def span_May.j0 : Nat → Bool → Int → Int → ByteArray → Bool → Bool → Option (Int)
  | 0, _, _, _, _, _, _ => none
  | k + 1, x13, x102000, x102001, x102002, x106000, x106001 => if x13 = true then (span_May.j1 k x13 x102000 x102001 x102002 x106000 x106001) else (if x106000 = true then (span_May.j1 k false x102000 x102001 x102002 x106000 x106001) else (span_May.j1 k (x102001 != 0) x102000 x102001 x102002 x106000 x106001))
def span_May.j1 : Nat → Bool → Int → Int → ByteArray → Bool → Bool → Option (Int)
  | 0, _, _, _, _, _, _ => none
  | k + 1, x13, x102000, x102001, x102002, x106000, x106001 => if x13 = true then (some 2) else (if x106000 = true then (span_May.j2 k (x102002.toList != ([] : List UInt8)) x102000 x102001 x102002) else (span_May.j2 k false x102000 x102001 x102002))
def span_May.j2 : Nat → Bool → Int → Int → ByteArray → Option (Int)
  | 0, _, _, _, _ => none
  | k + 1, x34, x102000, x102001, x102002 => if x34 = true then (some 3) else ((points_Valid.f x102002).bind fun t106 => (if t106 = true then (some 0) else (some 3)))
end
def span_May.f (k : Nat) (a0_0 : Int) (a0_1 : Int) (a0_2 : ByteArray) : Option (Int) := (span_of.f a0_0 a0_1 a0_2).bind fun bt102 => (if bt102.2.2 = true then (if bt102.1 = true then (if a0_1 < 0 then (span_May.j0 k true a0_0 a0_1 a0_2 bt102.1 bt102.2.1) else (span_May.j0 k (decide (a0_1 > 1048576)) a0_0 a0_1 a0_2 bt102.1 bt102.2.1)) else (span_May.j0 k false a0_0 a0_1 a0_2 bt102.1 bt102.2.1)) else (some 1))
set_option maxHeartbeats 8000000 in
set_option maxRecDepth 100000 in
theorem span_May.calls (k : Nat) (a0_0 : Int) (a0_1 : Int) (a0_2 : ByteArray) (r : Int) (w : World) (hG : Glob w) (h : span_May.f k a0_0 a0_1 a0_2 = some r) :
    Calls Tryd.prog 57 #[.agg #[.int .i64 a0_0, .int .i64 a0_1, .string a0_2]] w fun e w' => e = .returned (.int .i64 r) ∧ Below w.heap.size w w' := by
  have hu33 := Tryd.underlying33
  have hu90 := Tryd.underlying90
  have HG := Aside0.mk hG
  clear hG
  have HB := Aside0.mk (Below.refl w.heap.size w)
  have H : ((span_of.f a0_0 a0_1 a0_2).bind fun bt102 => (if bt102.2.2 = true then (if bt102.1 = true then (if a0_1 < 0 then (span_May.j0 k true a0_0 a0_1 a0_2 bt102.1 bt102.2.1) else (span_May.j0 k (decide (a0_1 > 1048576)) a0_0 a0_1 a0_2 bt102.1 bt102.2.1)) else (span_May.j0 k false a0_0 a0_1 a0_2 bt102.1 bt102.2.1)) else (some 1))) = some r := h
  clear h
  replace H := Option.bind_eq_some_iff.mp H
  obtain ⟨⟨t102, t103, t104⟩, A20, H⟩ := H
  replace H : (if t104 = true then (if t102 = true then (if a0_1 < 0 then (span_May.j0 k true a0_0 a0_1 a0_2 t102 t103) else (span_May.j0 k (decide (a0_1 > 1048576)) a0_0 a0_1 a0_2 t102 t103)) else (span_May.j0 k false a0_0 a0_1 a0_2 t102 t103)) else (some 1)) = some r := H
  have A2 := Aside0.mk A20
  clear A20
  by_cases c3 : t104 = true
  · subst c3
    have H1 : (if t102 = true then (if a0_1 < 0 then (span_May.j0 k true a0_0 a0_1 a0_2 t102 t103) else (span_May.j0 k (decide (a0_1 > 1048576)) a0_0 a0_1 a0_2 t102 t103)) else (span_May.j0 k false a0_0 a0_1 a0_2 t102 t103)) = some r := by rw [if_pos rfl] at H; exact H
    clear H
    have H := H1
    clear H1
    have HC4 := Aside0.mk H
    clear H
    go_enter Tryd.func57, Tryd.ntmps57
    go_upto_region 4 with (first | ((with_reducible refine gate_dst (N := 1) rfl ?_); refine box_event ?hg (N := 1) ?hd (cs := #[.int .i64 a0_0, .int .i64 a0_1, .string a0_2]) (t := 33) ?hr ?_; (case hd => rfl); (case hg => rfl); (case hr => first | (go_simp; done) | (go_simp; rfl)); intro gb101 hg w5 hbox hb; have n0_ := Aside0.mk (below_step (by repeat (first | (with_reducible first | exact HB.out | apply below_alloc | apply pw_below_drewN | apply below_drew1) | exact HB.out)) hb); have n1_ := Aside0.mk (hbox); have n2_ := Aside0.mk ((by rw [hg]; exact (below_size (by repeat (first | (with_reducible first | exact HB.out | apply below_alloc | apply pw_below_drewN | apply below_drew1) | exact HB.out))) : w.heap.size ≤ gb101)); have n3_ := Aside0.mk ((by rw [hg]; exact (below_size (by repeat (first | (with_reducible first | exact HB.out | apply below_alloc | apply pw_below_drewN | apply below_drew1) | exact HB.out))) : w.heap.size ≤ gb101)); clear HB; have HB := n0_; have BK101 := n1_; have GW101 := n2_; have GE101 := n3_; clear n0_ n1_ n2_ n3_; clear hb hbox hg; have hcz6_0 : w5.cell? ⟨gb101, 0, none⟩ = some (.int .i64 a0_0) := (blk_cell BK101.out 0).trans rfl; have hcz6_1 : w5.cell? ⟨gb101, 1, none⟩ = some (.int .i64 a0_1) := (blk_cell BK101.out 1).trans rfl; have hcz6_2 : w5.cell? ⟨gb101, 2, none⟩ = some (.string a0_2) := (blk_cell BK101.out 2).trans rfl; have hfz6_0 := blk_frozen BK101.out 0; have hfz6_1 := blk_frozen BK101.out 1; have hfz6_2 := blk_frozen BK101.out 2) | ((with_reducible refine gate_callee (f := 58) rfl ?_); refine goesL_ (some 7) rfl rfl Tryd.func58 (by kernel_rfl) rfl #[.agg #[.int .i64 a0_0, .int .i64 a0_1, .string a0_2]] rfl (by (try simp only [List.map_toArray, List.map_cons, List.map_nil]); first | done | rfl | (simp only [List.length_drop, List.length_take]; rfl)) ?_; (with_reducible refine (span_of.calls a0_0 a0_1 a0_2 t102 t103 true _ ?side1 A2.out).mono ?_); (case side1 => first | (with_reducible exact HG.out) | exact Glob.below HG.out (by repeat (first | (with_reducible first | exact HB.out | apply below_alloc | apply pw_below_drewN | apply below_drew1 | refine below_set ?_ GE101.out) | exact HB.out)) | exact Glob.drawn HG.out (by repeat (first | exact Drawn0.refl _ | apply Drawn0.step))); rintro e w7 ⟨rfl, hb⟩; refine ⟨_, rfl, ?_⟩; have n0_ := Aside0.mk (blk_below (g := gb101) (o := .cells #[.int .i64 a0_0, .int .i64 a0_1, .string a0_2] 33 (0, 0)) (by (with_reducible repeat (first | refine blk_drewN ?_ _ | refine blk_drew ?_ | refine blk_alloc ?_ _)); exact BK101.out) hb); have n1_ := Aside0.mk (below_step (by repeat (first | (with_reducible first | exact HB.out | apply below_alloc | apply pw_below_drewN | apply below_drew1 | refine below_set ?_ GE101.out) | exact HB.out)) hb); clear BK101; clear HB; have BK101 := n0_; have HB := n1_; clear n0_ n1_; (try clear hb); (try clear hb2); (try clear hk); (try clear hi)) | ((with_reducible refine gate_dst (N := 3) rfl ?_); refine box_event ?hg (N := 3) ?hd (cs := #[.bool false, .bool false]) (t := 90) ?hr ?_; (case hd => rfl); (case hg => rfl); (case hr => first | (go_simp; done) | (go_simp; rfl)); intro gb105 hg w8 hbox hb; have n0_ := Aside0.mk (blk_below (g := gb101) (o := .cells #[.int .i64 a0_0, .int .i64 a0_1, .string a0_2] 33 (0, 0)) (by (with_reducible repeat (first | refine blk_drewN ?_ _ | refine blk_drew ?_ | refine blk_alloc ?_ _)); exact BK101.out) hb); have n1_ := Aside0.mk (below_step (by repeat (first | (with_reducible first | exact HB.out | apply below_alloc | apply pw_below_drewN | apply below_drew1 | refine below_set ?_ GE101.out) | exact HB.out)) hb); have n2_ := Aside0.mk (hbox); have n3_ := Aside0.mk ((by rw [hg]; exact (below_size (by repeat (first | (with_reducible first | exact HB.out | apply below_alloc | apply pw_below_drewN | apply below_drew1 | refine below_set ?_ GE101.out) | exact HB.out))) : w.heap.size ≤ gb105)); have n4_ := Aside0.mk ((by rw [hg]; exact (below_size (by repeat (first | (with_reducible first | exact HB.out | apply below_alloc | apply pw_below_drewN | apply below_drew1 | refine below_set ?_ GE101.out) | exact HB.out))) : w.heap.size ≤ gb105)); have n5_ := Aside0.mk ((by rw [hg]; exact Nat.ne_of_lt (blk_lt (g := gb101) (o := .cells #[.int .i64 a0_0, .int .i64 a0_1, .string a0_2] 33 (0, 0)) (by (with_reducible repeat (first | refine blk_drewN ?_ _ | refine blk_drew ?_ | refine blk_alloc ?_ _)); exact BK101.out)) : gb101 ≠ gb105)); have n6_ := Aside0.mk ((by rw [hg]; exact Nat.ne_of_gt (blk_lt (g := gb101) (o := .cells #[.int .i64 a0_0, .int .i64 a0_1, .string a0_2] 33 (0, 0)) (by (with_reducible repeat (first | refine blk_drewN ?_ _ | refine blk_drew ?_ | refine blk_alloc ?_ _)); exact BK101.out)) : gb105 ≠ gb101)); clear BK101; clear HB; have BK101 := n0_; have HB := n1_; have BK105 := n2_; have GW105 := n3_; have GE105 := n4_; have NB101_105 := n5_; have NB105_101 := n6_; clear n0_ n1_ n2_ n3_ n4_ n5_ n6_; clear hb hbox hg; have hnb9 := NB105_101.out; have hnc9 := NB101_105.out; have hcz10_0 : w8.cell? ⟨gb105, 0, none⟩ = some (.bool false) := (blk_cell BK105.out 0).trans rfl; have hcz10_1 : w8.cell? ⟨gb105, 1, none⟩ = some (.bool false) := (blk_cell BK105.out 1).trans rfl; have hfz10_0 := blk_frozen BK105.out 0; have hfz10_1 := blk_frozen BK105.out 1))
    (try simp only [Act.put, List.setIfInBounds_toArray, List.set_cons_zero, List.set_cons_succ])
    go_cut [13] (fun v13 wc => ∃ (kq : Nat) (x13_3 : Bool), v13 = .bool x13_3 ∧ Aside0 (span_May.j0 kq x13_3 a0_0 a0_1 a0_2 t102 t103 = some r) ∧ Aside0 (kq ≤ k) ∧ Aside0 (wc.heap[gb101]? = some (.cells #[.int .i64 a0_0, .int .i64 a0_1, .string a0_2] 33 (0, 0))) ∧ Aside0 (wc.heap[gb105]? = some (.cells #[.bool t102, .bool t103] 90 (0, 0))) ∧ Aside0 (Below w.heap.size w wc))
    case first =>
      have H := HC4.out
      clear HC4
      by_cases c11 : t102 = true
      · subst c11
        have H1 : (if a0_1 < 0 then (span_May.j0 k true a0_0 a0_1 a0_2 true t103) else (span_May.j0 k (decide (a0_1 > 1048576)) a0_0 a0_1 a0_2 true t103)) = some r := by rw [if_pos rfl] at H; exact H
        clear H
        have H := H1
        clear H1
        by_cases c12 : a0_1 < 0
        · rw [if_pos c12] at H
          have c12b0 : decide (a0_1 < 0) = true := decide_eq_true c12
          clear c12
          (first | rw [c12b0] | (simp only [i64_w, i32_w]; rw [c12b0]) | skip)
          have H' := Aside0.mk H
          clear H
          have hnb13 := NB105_101.out
          have hnc13 := NB101_105.out
          have hcz14_0 : w8.cell? ⟨gb105, 0, none⟩ = some (.bool false) := (blk_cell BK105.out 0).trans rfl
          have hcz14_1 : w8.cell? ⟨gb105, 1, none⟩ = some (.bool false) := (blk_cell BK105.out 1).trans rfl
          have hfz14_0 := blk_frozen BK105.out 0
          have hfz14_1 := blk_frozen BK105.out 1
          have hcz15_0 : w8.cell? ⟨gb101, 0, none⟩ = some (.int .i64 a0_0) := (blk_cell BK101.out 0).trans rfl
          have hcz15_1 : w8.cell? ⟨gb101, 1, none⟩ = some (.int .i64 a0_1) := (blk_cell BK101.out 1).trans rfl
          have hcz15_2 : w8.cell? ⟨gb101, 2, none⟩ = some (.string a0_2) := (blk_cell BK101.out 2).trans rfl
          have hfz15_0 := blk_frozen BK101.out 0
          have hfz15_1 := blk_frozen BK101.out 1
          have hfz15_2 := blk_frozen BK101.out 2
          go_wp2
          go_meet
          case rel => exact ⟨_, (true), (by first | rfl | (simp; done) | (simp [*]; done) | (simp [isEmpty_bne]; done)), H', ⟨by first | omega | exact Nat.le_refl _⟩, ⟨by (with_reducible repeat (first | refine blk_drewN ?_ _ | refine blk_drew ?_ | refine blk_alloc ?_ _)); refine blk_far ?_ NB101_105.out _; (with_reducible repeat (first | refine blk_drewN ?_ _ | refine blk_drew ?_ | refine blk_alloc ?_ _)); refine blk_far ?_ NB101_105.out _; (with_reducible repeat (first | refine blk_drewN ?_ _ | refine blk_drew ?_ | refine blk_alloc ?_ _)); exact BK101.out⟩, ⟨by (with_reducible repeat (first | refine blk_drewN ?_ _ | refine blk_drew ?_ | refine blk_alloc ?_ _)); refine blk_put (cs := #[.bool true, .bool false]) ?_ 1 _ rfl; (with_reducible repeat (first | refine blk_drewN ?_ _ | refine blk_drew ?_ | refine blk_alloc ?_ _)); refine blk_put (cs := #[.bool false, .bool false]) ?_ 0 _ rfl; (with_reducible repeat (first | refine blk_drewN ?_ _ | refine blk_drew ?_ | refine blk_alloc ?_ _)); exact BK105.out⟩, ⟨by repeat (first | (with_reducible first | exact HB.out | apply below_alloc | apply pw_below_drewN | apply below_drew1 | refine below_set ?_ GE101.out | refine below_set ?_ GE105.out) | exact HB.out)⟩⟩
        · rw [if_neg c12] at H
          have c12b0 : decide (a0_1 < 0) = false := decide_eq_false c12
          clear c12
          (first | rw [c12b0] | (simp only [i64_w, i32_w]; rw [c12b0]) | skip)
          have H' := Aside0.mk H
          clear H
          have hnb16 := NB105_101.out
          have hnc16 := NB101_105.out
          have hcz17_0 : w8.cell? ⟨gb105, 0, none⟩ = some (.bool false) := (blk_cell BK105.out 0).trans rfl
          have hcz17_1 : w8.cell? ⟨gb105, 1, none⟩ = some (.bool false) := (blk_cell BK105.out 1).trans rfl
          have hfz17_0 := blk_frozen BK105.out 0
          have hfz17_1 := blk_frozen BK105.out 1
          have hcz18_0 : w8.cell? ⟨gb101, 0, none⟩ = some (.int .i64 a0_0) := (blk_cell BK101.out 0).trans rfl
          have hcz18_1 : w8.cell? ⟨gb101, 1, none⟩ = some (.int .i64 a0_1) := (blk_cell BK101.out 1).trans rfl
          have hcz18_2 : w8.cell? ⟨gb101, 2, none⟩ = some (.string a0_2) := (blk_cell BK101.out 2).trans rfl
          have hfz18_0 := blk_frozen BK101.out 0
          have hfz18_1 := blk_frozen BK101.out 1
          have hfz18_2 := blk_frozen BK101.out 2
          go_wp2
          go_meet
          case rel => exact ⟨_, (decide (a0_1 > 1048576)), (by first | rfl | (simp; done) | (simp [*]; done) | (simp [isEmpty_bne]; done)), H', ⟨by first | omega | exact Nat.le_refl _⟩, ⟨by (with_reducible repeat (first | refine blk_drewN ?_ _ | refine blk_drew ?_ | refine blk_alloc ?_ _)); refine blk_far ?_ NB101_105.out _; (with_reducible repeat (first | refine blk_drewN ?_ _ | refine blk_drew ?_ | refine blk_alloc ?_ _)); refine blk_far ?_ NB101_105.out _; (with_reducible repeat (first | refine blk_drewN ?_ _ | refine blk_drew ?_ | refine blk_alloc ?_ _)); exact BK101.out⟩, ⟨by (with_reducible repeat (first | refine blk_drewN ?_ _ | refine blk_drew ?_ | refine blk_alloc ?_ _)); refine blk_put (cs := #[.bool true, .bool false]) ?_ 1 _ rfl; (with_reducible repeat (first | refine blk_drewN ?_ _ | refine blk_drew ?_ | refine blk_alloc ?_ _)); refine blk_put (cs := #[.bool false, .bool false]) ?_ 0 _ rfl; (with_reducible repeat (first | refine blk_drewN ?_ _ | refine blk_drew ?_ | refine blk_alloc ?_ _)); exact BK105.out⟩, ⟨by repeat (first | (with_reducible first | exact HB.out | apply below_alloc | apply pw_below_drewN | apply below_drew1 | refine below_set ?_ GE101.out | refine below_set ?_ GE105.out) | exact HB.out)⟩⟩
      · replace c11 := Bool.eq_false_iff.mpr c11
        subst c11
        have H1 : (span_May.j0 k false a0_0 a0_1 a0_2 false t103) = some r := by rw [if_neg (show ¬ (false = true) by decide)] at H; exact H
        clear H
        have H := H1
        clear H1
        have H' := Aside0.mk H
        clear H
        have hnb19 := NB105_101.out
        have hnc19 := NB101_105.out
        have hcz20_0 : w8.cell? ⟨gb105, 0, none⟩ = some (.bool false) := (blk_cell BK105.out 0).trans rfl
        have hcz20_1 : w8.cell? ⟨gb105, 1, none⟩ = some (.bool false) := (blk_cell BK105.out 1).trans rfl
        have hfz20_0 := blk_frozen BK105.out 0
        have hfz20_1 := blk_frozen BK105.out 1
        go_wp2
        go_meet
        case rel => exact ⟨_, (false), (by first | rfl | (simp; done) | (simp [*]; done) | (simp [isEmpty_bne]; done)), H', ⟨by first | omega | exact Nat.le_refl _⟩, ⟨by (with_reducible repeat (first | refine blk_drewN ?_ _ | refine blk_drew ?_ | refine blk_alloc ?_ _)); refine blk_far ?_ NB101_105.out _; (with_reducible repeat (first | refine blk_drewN ?_ _ | refine blk_drew ?_ | refine blk_alloc ?_ _)); refine blk_far ?_ NB101_105.out _; (with_reducible repeat (first | refine blk_drewN ?_ _ | refine blk_drew ?_ | refine blk_alloc ?_ _)); exact BK101.out⟩, ⟨by (with_reducible repeat (first | refine blk_drewN ?_ _ | refine blk_drew ?_ | refine blk_alloc ?_ _)); refine blk_put (cs := #[.bool false, .bool false]) ?_ 1 _ rfl; (with_reducible repeat (first | refine blk_drewN ?_ _ | refine blk_drew ?_ | refine blk_alloc ?_ _)); refine blk_put (cs := #[.bool false, .bool false]) ?_ 0 _ rfl; (with_reducible repeat (first | refine blk_drewN ?_ _ | refine blk_drew ?_ | refine blk_alloc ?_ _)); exact BK105.out⟩, ⟨by repeat (first | (with_reducible first | exact HB.out | apply below_alloc | apply pw_below_drewN | apply below_drew1 | refine below_set ?_ GE101.out | refine below_set ?_ GE105.out) | exact HB.out)⟩⟩
    case rest =>
      clear HC4
      try clear c1
      try clear p2
      try clear c3
      try clear c5
      try clear c9
      try clear c11
      try clear c12
      try clear c12b0
      try clear c13
      try clear c16
      try clear c19
      try clear hcz10_0
      try clear hcz10_1
      try clear hcz14_0
      try clear hcz14_1
      try clear hcz15_0
      try clear hcz15_1
      try clear hcz15_2
      try clear hcz17_0
      try clear hcz17_1
      try clear hcz18_0
      try clear hcz18_1
      try clear hcz18_2
      try clear hcz20_0
      try clear hcz20_1
      try clear hcz6_0
      try clear hcz6_1
      try clear hcz6_2
      try clear hfz10_0
      try clear hfz10_1
      try clear hfz14_0
      try clear hfz14_1
      try clear hfz15_0
      try clear hfz15_1
      try clear hfz15_2
      try clear hfz17_0
      try clear hfz17_1
      try clear hfz18_0
      try clear hfz18_1
      try clear hfz18_2
      try clear hfz20_0
      try clear hfz20_1
      try clear hfz6_0
      try clear hfz6_1
      try clear hfz6_2
      obtain ⟨kq, x13_3, rfl, HA, HJ3, BK101, BK105, HB⟩ := hcut
      cases kq with
      | zero => exact absurd HA.out (by simp [span_May.j0])
      | succ kj3 =>
        have H := HA.out
        clear HA
        simp only [span_May.j0] at H
        have HC21 := Aside0.mk H
        clear H
        go_upto_if 13 with (fail)
        go_cut [13] (fun v13 wc => ∃ (kq : Nat) (x13_20 : Bool), v13 = .bool x13_20 ∧ Aside0 (span_May.j1 kq x13_20 a0_0 a0_1 a0_2 t102 t103 = some r) ∧ Aside0 (kq ≤ kj3) ∧ Aside0 (wc.heap[gb101]? = some (.cells #[.int .i64 a0_0, .int .i64 a0_1, .string a0_2] 33 (0, 0))) ∧ Aside0 (wc.heap[gb105]? = some (.cells #[.bool t102, .bool t103] 90 (0, 0))) ∧ Aside0 (Below w.heap.size w wc))
        case first =>
          have H := HC21.out
          clear HC21
          by_cases c22 : x13_3 = true
          · subst c22
            have H1 : (span_May.j1 kj3 true a0_0 a0_1 a0_2 t102 t103) = some r := by rw [if_pos rfl] at H; exact H
            clear H
            have H := H1
            clear H1
            have H' := Aside0.mk H
            clear H
            go_wp2
            go_meet
            case rel => exact ⟨_, (true), (by first | rfl | (simp; done) | (simp [*]; done) | (simp [isEmpty_bne]; done)), H', ⟨by have := HJ3.out; first | omega | exact Nat.le_refl _⟩, ⟨by (with_reducible repeat (first | refine blk_drewN ?_ _ | refine blk_drew ?_ | refine blk_alloc ?_ _)); exact BK101.out⟩, ⟨by (with_reducible repeat (first | refine blk_drewN ?_ _ | refine blk_drew ?_ | refine blk_alloc ?_ _)); exact BK105.out⟩, ⟨by repeat (first | (with_reducible first | exact HB.out | apply below_alloc | apply pw_below_drewN | apply below_drew1 | refine below_set ?_ GE101.out | refine below_set ?_ GE105.out) | exact HB.out)⟩⟩
          · replace c22 := Bool.eq_false_iff.mpr c22
            subst c22
            have H1 : (if t102 = true then (span_May.j1 kj3 false a0_0 a0_1 a0_2 t102 t103) else (span_May.j1 kj3 (a0_1 != 0) a0_0 a0_1 a0_2 t102 t103)) = some r := by rw [if_neg (show ¬ (false = true) by decide)] at H; exact H
            clear H
            have H := H1
            clear H1
            by_cases c23 : t102 = true
            · subst c23
              have H1 : (span_May.j1 kj3 false a0_0 a0_1 a0_2 true t103) = some r := by rw [if_pos rfl] at H; exact H
              clear H
              have H := H1
              clear H1
              have H' := Aside0.mk H
              clear H
              have hnb24 := NB105_101.out
              have hnc24 := NB101_105.out
              have hcz25_0 : wc.cell? ⟨gb105, 0, none⟩ = some (.bool true) := (blk_cell BK105.out 0).trans rfl
              have hcz25_1 : wc.cell? ⟨gb105, 1, none⟩ = some (.bool t103) := (blk_cell BK105.out 1).trans rfl
              have hfz25_0 := blk_frozen BK105.out 0
              have hfz25_1 := blk_frozen BK105.out 1
              go_wp2
              go_meet
              case rel => exact ⟨_, (false), (by first | rfl | (simp; done) | (simp [*]; done) | (simp [isEmpty_bne]; done)), H', ⟨by have := HJ3.out; first | omega | exact Nat.le_refl _⟩, ⟨by (with_reducible repeat (first | refine blk_drewN ?_ _ | refine blk_drew ?_ | refine blk_alloc ?_ _)); exact BK101.out⟩, ⟨by (with_reducible repeat (first | refine blk_drewN ?_ _ | refine blk_drew ?_ | refine blk_alloc ?_ _)); exact BK105.out⟩, ⟨by repeat (first | (with_reducible first | exact HB.out | apply below_alloc | apply pw_below_drewN | apply below_drew1 | refine below_set ?_ GE101.out | refine below_set ?_ GE105.out) | exact HB.out)⟩⟩
            · replace c23 := Bool.eq_false_iff.mpr c23
              subst c23
              have H1 : (span_May.j1 kj3 (a0_1 != 0) a0_0 a0_1 a0_2 false t103) = some r := by rw [if_neg (show ¬ (false = true) by decide)] at H; exact H
              clear H
              have H := H1
              clear H1
              have H' := Aside0.mk H
              clear H
              have hnb26 := NB105_101.out
              have hnc26 := NB101_105.out
              have hcz27_0 : wc.cell? ⟨gb105, 0, none⟩ = some (.bool false) := (blk_cell BK105.out 0).trans rfl
              have hcz27_1 : wc.cell? ⟨gb105, 1, none⟩ = some (.bool t103) := (blk_cell BK105.out 1).trans rfl
              have hfz27_0 := blk_frozen BK105.out 0
              have hfz27_1 := blk_frozen BK105.out 1
              have hcz28_0 : wc.cell? ⟨gb101, 0, none⟩ = some (.int .i64 a0_0) := (blk_cell BK101.out 0).trans rfl
              have hcz28_1 : wc.cell? ⟨gb101, 1, none⟩ = some (.int .i64 a0_1) := (blk_cell BK101.out 1).trans rfl
              have hcz28_2 : wc.cell? ⟨gb101, 2, none⟩ = some (.string a0_2) := (blk_cell BK101.out 2).trans rfl
              have hfz28_0 := blk_frozen BK101.out 0
              have hfz28_1 := blk_frozen BK101.out 1
              have hfz28_2 := blk_frozen BK101.out 2
              go_wp2
              go_meet
              case rel => exact ⟨_, ((a0_1 != 0)), (by first | rfl | (simp; done) | (simp [*]; done) | (simp [isEmpty_bne]; done)), H', ⟨by have := HJ3.out; first | omega | exact Nat.le_refl _⟩, ⟨by (with_reducible repeat (first | refine blk_drewN ?_ _ | refine blk_drew ?_ | refine blk_alloc ?_ _)); exact BK101.out⟩, ⟨by (with_reducible repeat (first | refine blk_drewN ?_ _ | refine blk_drew ?_ | refine blk_alloc ?_ _)); exact BK105.out⟩, ⟨by repeat (first | (with_reducible first | exact HB.out | apply below_alloc | apply pw_below_drewN | apply below_drew1 | refine below_set ?_ GE101.out | refine below_set ?_ GE105.out) | exact HB.out)⟩⟩
        case rest =>
          clear HC21
          try clear c1
          try clear c2
          try clear p2
          try clear c3
          try clear c5
          try clear c9
          try clear c11
          try clear c12
          try clear c12b0
          try clear c13
          try clear c16
          try clear c19
          try clear c22
          try clear c23
          try clear c24
          try clear c26
          try clear hcz10_0
          try clear hcz10_1
          try clear hcz14_0
          try clear hcz14_1
          try clear hcz15_0
          try clear hcz15_1
          try clear hcz15_2
          try clear hcz17_0
          try clear hcz17_1
          try clear hcz18_0
          try clear hcz18_1
          try clear hcz18_2
          try clear hcz20_0
          try clear hcz20_1
          try clear hcz25_0
          try clear hcz25_1
          try clear hcz27_0
          try clear hcz27_1
          try clear hcz28_0
          try clear hcz28_1
          try clear hcz28_2
          try clear hcz6_0
          try clear hcz6_1
          try clear hcz6_2
          try clear hfz10_0
          try clear hfz10_1
          try clear hfz14_0
          try clear hfz14_1
          try clear hfz15_0
          try clear hfz15_1
          try clear hfz15_2
          try clear hfz17_0
          try clear hfz17_1
          try clear hfz18_0
          try clear hfz18_1
          try clear hfz18_2
          try clear hfz20_0
          try clear hfz20_1
          try clear hfz25_0
          try clear hfz25_1
          try clear hfz27_0
          try clear hfz27_1
          try clear hfz28_0
          try clear hfz28_1
          try clear hfz28_2
          try clear hfz6_0
          try clear hfz6_1
          try clear hfz6_2
          try clear p2
          obtain ⟨kq, x13_20, rfl, HA, HJ20, BK101, BK105, HB⟩ := hcut
          cases kq with
          | zero => exact absurd HA.out (by simp [span_May.j1])
          | succ kj20 =>
            have H := HA.out
            clear HA
            simp only [span_May.j1] at H
            by_cases c29 : x13_20 = true
            · subst c29
              have H1 : (some 2) = some r := by rw [if_pos rfl] at H; exact H
              clear H
              have H := H1
              clear H1
              obtain rfl := Option.some.inj H
              go_wp2
              go_ret
              exact ⟨by first | rfl | (simp [errW_none, errW_some] <;> rfl) | (simp [*, errW_none, errW_some] <;> rfl), by repeat (first | (with_reducible first | exact HB.out | apply below_alloc | apply pw_below_drewN | apply below_drew1 | refine below_set ?_ GE101.out | refine below_set ?_ GE105.out) | exact HB.out)⟩
            · replace c29 := Bool.eq_false_iff.mpr c29
              subst c29
              have H1 : (if t102 = true then (span_May.j2 kj20 (a0_2.toList != ([] : List UInt8)) a0_0 a0_1 a0_2) else (span_May.j2 kj20 false a0_0 a0_1 a0_2)) = some r := by rw [if_neg (show ¬ (false = true) by decide)] at H; exact H
              clear H
              have H := H1
              clear H1
              have HC30 := Aside0.mk H
              clear H
              go_upto_region 7 with (fail)
              go_cut [34] (fun v34 wc => ∃ (kq : Nat) (x34_29 : Bool), v34 = .bool x34_29 ∧ Aside0 (span_May.j2 kq x34_29 a0_0 a0_1 a0_2 = some r) ∧ Aside0 (kq ≤ kj20) ∧ Aside0 (wc.heap[gb101]? = some (.cells #[.int .i64 a0_0, .int .i64 a0_1, .string a0_2] 33 (0, 0))) ∧ Aside0 (wc.heap[gb105]? = some (.cells #[.bool t102, .bool t103] 90 (0, 0))) ∧ Aside0 (Below w.heap.size w wc))
              case first =>
                have H := HC30.out
                clear HC30
                by_cases c31 : t102 = true
                · subst c31
                  have H1 : (span_May.j2 kj20 (a0_2.toList != ([] : List UInt8)) a0_0 a0_1 a0_2) = some r := by rw [if_pos rfl] at H; exact H
                  clear H
                  have H := H1
                  clear H1
                  have H' := Aside0.mk H
                  clear H
                  have hnb32 := NB105_101.out
                  have hnc32 := NB101_105.out
                  have hcz33_0 : wc.cell? ⟨gb105, 0, none⟩ = some (.bool true) := (blk_cell BK105.out 0).trans rfl
                  have hcz33_1 : wc.cell? ⟨gb105, 1, none⟩ = some (.bool t103) := (blk_cell BK105.out 1).trans rfl
                  have hfz33_0 := blk_frozen BK105.out 0
                  have hfz33_1 := blk_frozen BK105.out 1
                  have hcz34_0 : wc.cell? ⟨gb101, 0, none⟩ = some (.int .i64 a0_0) := (blk_cell BK101.out 0).trans rfl
                  have hcz34_1 : wc.cell? ⟨gb101, 1, none⟩ = some (.int .i64 a0_1) := (blk_cell BK101.out 1).trans rfl
                  have hcz34_2 : wc.cell? ⟨gb101, 2, none⟩ = some (.string a0_2) := (blk_cell BK101.out 2).trans rfl
                  have hfz34_0 := blk_frozen BK101.out 0
                  have hfz34_1 := blk_frozen BK101.out 1
                  have hfz34_2 := blk_frozen BK101.out 2
                  go_wp2
                  go_meet
                  case rel => exact ⟨_, ((a0_2.toList != ([] : List UInt8))), (by first | rfl | (simp; done) | (simp [*]; done) | (simp [isEmpty_bne]; done)), H', ⟨by have := HJ3.out; have := HJ20.out; first | omega | exact Nat.le_refl _⟩, ⟨by (with_reducible repeat (first | refine blk_drewN ?_ _ | refine blk_drew ?_ | refine blk_alloc ?_ _)); exact BK101.out⟩, ⟨by (with_reducible repeat (first | refine blk_drewN ?_ _ | refine blk_drew ?_ | refine blk_alloc ?_ _)); exact BK105.out⟩, ⟨by repeat (first | (with_reducible first | exact HB.out | apply below_alloc | apply pw_below_drewN | apply below_drew1 | refine below_set ?_ GE101.out | refine below_set ?_ GE105.out) | exact HB.out)⟩⟩
                · replace c31 := Bool.eq_false_iff.mpr c31
                  subst c31
                  have H1 : (span_May.j2 kj20 false a0_0 a0_1 a0_2) = some r := by rw [if_neg (show ¬ (false = true) by decide)] at H; exact H
                  clear H
                  have H := H1
                  clear H1
                  have H' := Aside0.mk H
                  clear H
                  have hnb35 := NB105_101.out
                  have hnc35 := NB101_105.out
                  have hcz36_0 : wc.cell? ⟨gb105, 0, none⟩ = some (.bool false) := (blk_cell BK105.out 0).trans rfl
                  have hcz36_1 : wc.cell? ⟨gb105, 1, none⟩ = some (.bool t103) := (blk_cell BK105.out 1).trans rfl
                  have hfz36_0 := blk_frozen BK105.out 0
                  have hfz36_1 := blk_frozen BK105.out 1
                  go_wp2
                  go_meet
                  case rel => exact ⟨_, (false), (by first | rfl | (simp; done) | (simp [*]; done) | (simp [isEmpty_bne]; done)), H', ⟨by have := HJ3.out; have := HJ20.out; first | omega | exact Nat.le_refl _⟩, ⟨by (with_reducible repeat (first | refine blk_drewN ?_ _ | refine blk_drew ?_ | refine blk_alloc ?_ _)); exact BK101.out⟩, ⟨by (with_reducible repeat (first | refine blk_drewN ?_ _ | refine blk_drew ?_ | refine blk_alloc ?_ _)); exact BK105.out⟩, ⟨by repeat (first | (with_reducible first | exact HB.out | apply below_alloc | apply pw_below_drewN | apply below_drew1 | refine below_set ?_ GE101.out | refine below_set ?_ GE105.out) | exact HB.out)⟩⟩
              case rest =>
                clear HC30
                try clear c1
                try clear c2
                try clear p2
                try clear c3
                try clear c5
                try clear c9
                try clear c11
                try clear c12
                try clear c12b0
                try clear c13
                try clear c16
                try clear c19
                try clear c22
                try clear c23
                try clear c24
                try clear c26
                try clear c29
                try clear c31
                try clear c32
                try clear c35
                try clear hcz10_0
                try clear hcz10_1
                try clear hcz14_0
                try clear hcz14_1
                try clear hcz15_0
                try clear hcz15_1
                try clear hcz15_2
                try clear hcz17_0
                try clear hcz17_1
                try clear hcz18_0
                try clear hcz18_1
                try clear hcz18_2
                try clear hcz20_0
                try clear hcz20_1
                try clear hcz25_0
                try clear hcz25_1
                try clear hcz27_0
                try clear hcz27_1
                try clear hcz28_0
                try clear hcz28_1
                try clear hcz28_2
                try clear hcz33_0
                try clear hcz33_1
                try clear hcz34_0
                try clear hcz34_1
                try clear hcz34_2
                try clear hcz36_0
                try clear hcz36_1
                try clear hcz6_0
                try clear hcz6_1
                try clear hcz6_2
                try clear hfz10_0
                try clear hfz10_1
                try clear hfz14_0
                try clear hfz14_1
                try clear hfz15_0
                try clear hfz15_1
                try clear hfz15_2
                try clear hfz17_0
                try clear hfz17_1
                try clear hfz18_0
                try clear hfz18_1
                try clear hfz18_2
                try clear hfz20_0
                try clear hfz20_1
                try clear hfz25_0
                try clear hfz25_1
                try clear hfz27_0
                try clear hfz27_1
                try clear hfz28_0
                try clear hfz28_1
                try clear hfz28_2
                try clear hfz33_0
                try clear hfz33_1
                try clear hfz34_0
                try clear hfz34_1
                try clear hfz34_2
                try clear hfz36_0
                try clear hfz36_1
                try clear hfz6_0
                try clear hfz6_1
                try clear hfz6_2
                try clear p2
                obtain ⟨kq, x34_29, rfl, HA, HJ29, BK101, BK105, HB⟩ := hcut
                cases kq with
                | zero => exact absurd HA.out (by simp [span_May.j2])
                | succ kj29 =>
                  have H := HA.out
                  clear HA
                  simp only [span_May.j2] at H
                  by_cases c37 : x34_29 = true
                  · subst c37
                    have H1 : (some 3) = some r := by rw [if_pos rfl] at H; exact H
                    clear H
                    have H := H1
                    clear H1
                    obtain rfl := Option.some.inj H
                    go_wp2
                    go_ret
                    exact ⟨by first | rfl | (simp [errW_none, errW_some] <;> rfl) | (simp [*, errW_none, errW_some] <;> rfl), by repeat (first | (with_reducible first | exact HB.out | apply below_alloc | apply pw_below_drewN | apply below_drew1 | refine below_set ?_ GE101.out | refine below_set ?_ GE105.out) | exact HB.out)⟩
                  · replace c37 := Bool.eq_false_iff.mpr c37
                    subst c37
                    have H1 : ((points_Valid.f a0_2).bind fun t106 => (if t106 = true then (some 0) else (some 3))) = some r := by rw [if_neg (show ¬ (false = true) by decide)] at H; exact H
                    clear H
                    have H := H1
                    clear H1
                    replace H := Option.bind_eq_some_iff.mp H
                    obtain ⟨t106, A380, H⟩ := H
                    replace H : (if t106 = true then (some 0) else (some 3)) = some r := H
                    have A38 := Aside0.mk A380
                    clear A380
                    by_cases c39 : t106 = true
                    · subst c39
                      have H1 : (some 0) = some r := by rw [if_pos rfl] at H; exact H
                      clear H
                      have H := H1
                      clear H1
                      obtain rfl := Option.some.inj H
                      have hnb40 := NB101_105.out
                      have hnc40 := NB105_101.out
                      have hcz41_0 : wc.cell? ⟨gb101, 0, none⟩ = some (.int .i64 a0_0) := (blk_cell BK101.out 0).trans rfl
                      have hcz41_1 : wc.cell? ⟨gb101, 1, none⟩ = some (.int .i64 a0_1) := (blk_cell BK101.out 1).trans rfl
                      have hcz41_2 : wc.cell? ⟨gb101, 2, none⟩ = some (.string a0_2) := (blk_cell BK101.out 2).trans rfl
                      have hfz41_0 := blk_frozen BK101.out 0
                      have hfz41_1 := blk_frozen BK101.out 1
                      have hfz41_2 := blk_frozen BK101.out 2
                      go_wp2_with (first | ((with_reducible refine gate_callee (f := 48) rfl ?_); refine goesL_ (some 44) rfl rfl Tryd.func48 (by kernel_rfl) rfl #[.string a0_2] rfl (by (try simp only [List.map_toArray, List.map_cons, List.map_nil]); first | done | rfl | (simp only [List.length_drop, List.length_take]; rfl)) ?_; (with_reducible refine (points_Valid.calls a0_2 true _ ?side1 A38.out).mono ?_); (case side1 => first | (with_reducible exact HG.out) | exact Glob.below HG.out (by repeat (first | (with_reducible first | exact HB.out | apply below_alloc | apply pw_below_drewN | apply below_drew1 | refine below_set ?_ GE101.out | refine below_set ?_ GE105.out) | exact HB.out)) | exact Glob.drawn HG.out (by repeat (first | exact Drawn0.refl _ | apply Drawn0.step))); rintro e w42 ⟨rfl, hb⟩; refine ⟨_, rfl, ?_⟩; have n0_ := Aside0.mk (blk_below (g := gb101) (o := .cells #[.int .i64 a0_0, .int .i64 a0_1, .string a0_2] 33 (0, 0)) (by (with_reducible repeat (first | refine blk_drewN ?_ _ | refine blk_drew ?_ | refine blk_alloc ?_ _)); exact BK101.out) hb); have n1_ := Aside0.mk (blk_below (g := gb105) (o := .cells #[.bool t102, .bool t103] 90 (0, 0)) (by (with_reducible repeat (first | refine blk_drewN ?_ _ | refine blk_drew ?_ | refine blk_alloc ?_ _)); exact BK105.out) hb); have n2_ := Aside0.mk (below_step (by repeat (first | (with_reducible first | exact HB.out | apply below_alloc | apply pw_below_drewN | apply below_drew1 | refine below_set ?_ GE101.out | refine below_set ?_ GE105.out) | exact HB.out)) hb); clear BK101; clear BK105; clear HB; have BK101 := n0_; have BK105 := n1_; have HB := n2_; clear n0_ n1_ n2_; (try clear hb); (try clear hb2); (try clear hk); (try clear hi)))
                      go_ret
                      exact ⟨by first | rfl | (simp [errW_none, errW_some] <;> rfl) | (simp [*, errW_none, errW_some] <;> rfl), by repeat (first | (with_reducible first | exact HB.out | apply below_alloc | apply pw_below_drewN | apply below_drew1 | refine below_set ?_ GE101.out | refine below_set ?_ GE105.out) | exact HB.out)⟩
                    · replace c39 := Bool.eq_false_iff.mpr c39
                      subst c39
                      have H1 : (some 3) = some r := by rw [if_neg (show ¬ (false = true) by decide)] at H; exact H
                      clear H
                      have H := H1
                      clear H1
                      obtain rfl := Option.some.inj H
                      have hnb43 := NB101_105.out
                      have hnc43 := NB105_101.out
                      have hcz44_0 : wc.cell? ⟨gb101, 0, none⟩ = some (.int .i64 a0_0) := (blk_cell BK101.out 0).trans rfl
                      have hcz44_1 : wc.cell? ⟨gb101, 1, none⟩ = some (.int .i64 a0_1) := (blk_cell BK101.out 1).trans rfl
                      have hcz44_2 : wc.cell? ⟨gb101, 2, none⟩ = some (.string a0_2) := (blk_cell BK101.out 2).trans rfl
                      have hfz44_0 := blk_frozen BK101.out 0
                      have hfz44_1 := blk_frozen BK101.out 1
                      have hfz44_2 := blk_frozen BK101.out 2
                      go_wp2_with (first | ((with_reducible refine gate_callee (f := 48) rfl ?_); refine goesL_ (some 44) rfl rfl Tryd.func48 (by kernel_rfl) rfl #[.string a0_2] rfl (by (try simp only [List.map_toArray, List.map_cons, List.map_nil]); first | done | rfl | (simp only [List.length_drop, List.length_take]; rfl)) ?_; (with_reducible refine (points_Valid.calls a0_2 false _ ?side1 A38.out).mono ?_); (case side1 => first | (with_reducible exact HG.out) | exact Glob.below HG.out (by repeat (first | (with_reducible first | exact HB.out | apply below_alloc | apply pw_below_drewN | apply below_drew1 | refine below_set ?_ GE101.out | refine below_set ?_ GE105.out) | exact HB.out)) | exact Glob.drawn HG.out (by repeat (first | exact Drawn0.refl _ | apply Drawn0.step))); rintro e w45 ⟨rfl, hb⟩; refine ⟨_, rfl, ?_⟩; have n0_ := Aside0.mk (blk_below (g := gb101) (o := .cells #[.int .i64 a0_0, .int .i64 a0_1, .string a0_2] 33 (0, 0)) (by (with_reducible repeat (first | refine blk_drewN ?_ _ | refine blk_drew ?_ | refine blk_alloc ?_ _)); exact BK101.out) hb); have n1_ := Aside0.mk (blk_below (g := gb105) (o := .cells #[.bool t102, .bool t103] 90 (0, 0)) (by (with_reducible repeat (first | refine blk_drewN ?_ _ | refine blk_drew ?_ | refine blk_alloc ?_ _)); exact BK105.out) hb); have n2_ := Aside0.mk (below_step (by repeat (first | (with_reducible first | exact HB.out | apply below_alloc | apply pw_below_drewN | apply below_drew1 | refine below_set ?_ GE101.out | refine below_set ?_ GE105.out) | exact HB.out)) hb); clear BK101; clear BK105; clear HB; have BK101 := n0_; have BK105 := n1_; have HB := n2_; clear n0_ n1_ n2_; (try clear hb); (try clear hb2); (try clear hk); (try clear hi)))
                      go_ret
                      exact ⟨by first | rfl | (simp [errW_none, errW_some] <;> rfl) | (simp [*, errW_none, errW_some] <;> rfl), by repeat (first | (with_reducible first | exact HB.out | apply below_alloc | apply pw_below_drewN | apply below_drew1 | refine below_set ?_ GE101.out | refine below_set ?_ GE105.out) | exact HB.out)⟩
  · replace c3 := Bool.eq_false_iff.mpr c3
    subst c3
    have H1 : (some 1) = some r := by rw [if_neg (show ¬ (false = true) by decide)] at H; exact H
    clear H
    have H := H1
    clear H1
    obtain rfl := Option.some.inj H
    go_enter Tryd.func57, Tryd.ntmps57
    go_wp2_with (first | ((with_reducible refine gate_dst (N := 1) rfl ?_); refine box_event ?hg (N := 1) ?hd (cs := #[.int .i64 a0_0, .int .i64 a0_1, .string a0_2]) (t := 33) ?hr ?_; (case hd => rfl); (case hg => rfl); (case hr => first | (go_simp; done) | (go_simp; rfl)); intro gb101 hg w46 hbox hb; have n0_ := Aside0.mk (below_step (by repeat (first | (with_reducible first | exact HB.out | apply below_alloc | apply pw_below_drewN | apply below_drew1) | exact HB.out)) hb); have n1_ := Aside0.mk (hbox); have n2_ := Aside0.mk ((by rw [hg]; exact (below_size (by repeat (first | (with_reducible first | exact HB.out | apply below_alloc | apply pw_below_drewN | apply below_drew1) | exact HB.out))) : w.heap.size ≤ gb101)); have n3_ := Aside0.mk ((by rw [hg]; exact (below_size (by repeat (first | (with_reducible first | exact HB.out | apply below_alloc | apply pw_below_drewN | apply below_drew1) | exact HB.out))) : w.heap.size ≤ gb101)); clear HB; have HB := n0_; have BK101 := n1_; have GW101 := n2_; have GE101 := n3_; clear n0_ n1_ n2_ n3_; clear hb hbox hg; have hcz47_0 : w46.cell? ⟨gb101, 0, none⟩ = some (.int .i64 a0_0) := (blk_cell BK101.out 0).trans rfl; have hcz47_1 : w46.cell? ⟨gb101, 1, none⟩ = some (.int .i64 a0_1) := (blk_cell BK101.out 1).trans rfl; have hcz47_2 : w46.cell? ⟨gb101, 2, none⟩ = some (.string a0_2) := (blk_cell BK101.out 2).trans rfl; have hfz47_0 := blk_frozen BK101.out 0; have hfz47_1 := blk_frozen BK101.out 1; have hfz47_2 := blk_frozen BK101.out 2) | ((with_reducible refine gate_callee (f := 58) rfl ?_); refine goesL_ (some 7) rfl rfl Tryd.func58 (by kernel_rfl) rfl #[.agg #[.int .i64 a0_0, .int .i64 a0_1, .string a0_2]] rfl (by (try simp only [List.map_toArray, List.map_cons, List.map_nil]); first | done | rfl | (simp only [List.length_drop, List.length_take]; rfl)) ?_; (with_reducible refine (span_of.calls a0_0 a0_1 a0_2 t102 t103 false _ ?side1 A2.out).mono ?_); (case side1 => first | (with_reducible exact HG.out) | exact Glob.below HG.out (by repeat (first | (with_reducible first | exact HB.out | apply below_alloc | apply pw_below_drewN | apply below_drew1 | refine below_set ?_ GE101.out) | exact HB.out)) | exact Glob.drawn HG.out (by repeat (first | exact Drawn0.refl _ | apply Drawn0.step))); rintro e w48 ⟨rfl, hb⟩; refine ⟨_, rfl, ?_⟩; have n0_ := Aside0.mk (blk_below (g := gb101) (o := .cells #[.int .i64 a0_0, .int .i64 a0_1, .string a0_2] 33 (0, 0)) (by (with_reducible repeat (first | refine blk_drewN ?_ _ | refine blk_drew ?_ | refine blk_alloc ?_ _)); exact BK101.out) hb); have n1_ := Aside0.mk (below_step (by repeat (first | (with_reducible first | exact HB.out | apply below_alloc | apply pw_below_drewN | apply below_drew1 | refine below_set ?_ GE101.out) | exact HB.out)) hb); clear BK101; clear HB; have BK101 := n0_; have HB := n1_; clear n0_ n1_; (try clear hb); (try clear hb2); (try clear hk); (try clear hi)) | ((with_reducible refine gate_dst (N := 3) rfl ?_); refine box_event ?hg (N := 3) ?hd (cs := #[.bool false, .bool false]) (t := 90) ?hr ?_; (case hd => rfl); (case hg => rfl); (case hr => first | (go_simp; done) | (go_simp; rfl)); intro gb105 hg w49 hbox hb; have n0_ := Aside0.mk (blk_below (g := gb101) (o := .cells #[.int .i64 a0_0, .int .i64 a0_1, .string a0_2] 33 (0, 0)) (by (with_reducible repeat (first | refine blk_drewN ?_ _ | refine blk_drew ?_ | refine blk_alloc ?_ _)); exact BK101.out) hb); have n1_ := Aside0.mk (below_step (by repeat (first | (with_reducible first | exact HB.out | apply below_alloc | apply pw_below_drewN | apply below_drew1 | refine below_set ?_ GE101.out) | exact HB.out)) hb); have n2_ := Aside0.mk (hbox); have n3_ := Aside0.mk ((by rw [hg]; exact (below_size (by repeat (first | (with_reducible first | exact HB.out | apply below_alloc | apply pw_below_drewN | apply below_drew1 | refine below_set ?_ GE101.out) | exact HB.out))) : w.heap.size ≤ gb105)); have n4_ := Aside0.mk ((by rw [hg]; exact (below_size (by repeat (first | (with_reducible first | exact HB.out | apply below_alloc | apply pw_below_drewN | apply below_drew1 | refine below_set ?_ GE101.out) | exact HB.out))) : w.heap.size ≤ gb105)); have n5_ := Aside0.mk ((by rw [hg]; exact Nat.ne_of_lt (blk_lt (g := gb101) (o := .cells #[.int .i64 a0_0, .int .i64 a0_1, .string a0_2] 33 (0, 0)) (by (with_reducible repeat (first | refine blk_drewN ?_ _ | refine blk_drew ?_ | refine blk_alloc ?_ _)); exact BK101.out)) : gb101 ≠ gb105)); have n6_ := Aside0.mk ((by rw [hg]; exact Nat.ne_of_gt (blk_lt (g := gb101) (o := .cells #[.int .i64 a0_0, .int .i64 a0_1, .string a0_2] 33 (0, 0)) (by (with_reducible repeat (first | refine blk_drewN ?_ _ | refine blk_drew ?_ | refine blk_alloc ?_ _)); exact BK101.out)) : gb105 ≠ gb101)); clear BK101; clear HB; have BK101 := n0_; have HB := n1_; have BK105 := n2_; have GW105 := n3_; have GE105 := n4_; have NB101_105 := n5_; have NB105_101 := n6_; clear n0_ n1_ n2_ n3_ n4_ n5_ n6_; clear hb hbox hg; have hnb50 := NB105_101.out; have hnc50 := NB101_105.out; have hcz51_0 : w49.cell? ⟨gb105, 0, none⟩ = some (.bool false) := (blk_cell BK105.out 0).trans rfl; have hcz51_1 : w49.cell? ⟨gb105, 1, none⟩ = some (.bool false) := (blk_cell BK105.out 1).trans rfl; have hfz51_0 := blk_frozen BK105.out 0; have hfz51_1 := blk_frozen BK105.out 1))
    go_ret
    exact ⟨by first | rfl | (simp [errW_none, errW_some] <;> rfl) | (simp [*, errW_none, errW_some] <;> rfl), by repeat (first | (with_reducible first | exact HB.out | apply below_alloc | apply pw_below_drewN | apply below_drew1 | refine below_set ?_ GE101.out | refine below_set ?_ GE105.out) | exact HB.out)⟩
end Go.Proofs.YtkgicpnnlkcaeaaDoor.F
end
section
namespace Go.Proofs.YtkgicpnnlkcaeaaDoor.F
open Go.RowKit Go.Proofs.YtkgicpnnlkcaeaaDoorW.PrintWords Go.Proofs.YtkgicpnnlkcaeaaDoorW.PrintLast Go.Proofs.YtkgicpnnlkcaeaaDoorW.PrintMore
attribute [local go_sem] max2_int min2_int max_two min_two max_three min_three max_four min_four cell_setCell_isSome
set_option linter.unusedVariables false
set_option linter.unusedSimpArgs false
def op_May.l0 : Nat → List (S33) → List (S33) → Int → Int → Option (Int)
  | 0, _, _, _, _ => none
  | k + 1, x0, x6, x7, x8 => if x8 < x7 then (if 0 ≤ x8 then (if x8 < (x6.length : Int) then ((span_May.f k ((rd_T33 x6 x8).f0) ((rd_T33 x6 x8).f1) ((rd_T33 x6 x8).f2)).bind fun t103 => (if t103 = 0 then (op_May.l0 k x0 x6 x7 (wrap64 (x8 + 1))) else (some t103))) else (none)) else (none)) else ((op_In.f k x0).bind fun t104 => (if t104 > 1048576 then (some 4) else (some 0)))
def op_May.f (k : Nat) (l0 : List (S33)) : Option (Int) := op_May.l0 k l0 l0 (l0.length : Int) 0
set_option maxHeartbeats 8000000 in
set_option maxRecDepth 100000 in
theorem op_May.calls (k : Nat) (A0 : Option Addr) (c0 : Nat) (l0 : List (S33)) (r : Int) (w : World) (hG : Glob w) (hr0 : Kd.C k33 w A0 l0.length l0) (hc0 : l0.length ≤ c0) (h : op_May.f k l0 = some r) :
    Calls Tryd.prog 42 #[.slice A0 l0.length c0] w fun e w' => e = .returned (.int .i64 r) ∧ Below w.heap.size w w' := by
  have hu33 := Tryd.underlying33
  have HG := Aside0.mk hG
  clear hG
  have HR0 := Aside0.mk hr0
  have HC0 := Aside0.mk hc0
  clear hr0 hc0
  have HB := Aside0.mk (Below.refl w.heap.size w)
  have H : (op_May.l0 k l0 l0 (l0.length : Int) 0) = some r := h
  clear h
  have H' := Aside0.mk H
  clear H
  go_enter Tryd.func42, Tryd.ntmps42
  go_wp2
  go_loopg [8] k (fun kq v8 w' => ∃ (x8_1 : Int), v8 = .int .i64 x8_1 ∧ Aside0 (op_May.l0 kq l0 l0 (l0.length : Int) x8_1 = some r) ∧ Aside0 (kq ≤ k) ∧ Aside0 (Below w.heap.size w w'))
  case atStart => exact ⟨(0), (by first | rfl | (simp; done) | (simp [*]; done)), H', ⟨Nat.le_refl _⟩, ⟨by repeat (first | (with_reducible first | exact HB.out | apply below_alloc | apply pw_below_drewN | apply below_drew1) | exact HB.out)⟩⟩
  case round =>
    clear H'
    obtain ⟨x8_1, rfl, HA, HK1, HB⟩ := hrel
    cases gk with
    | zero => exact absurd HA.out (by simp [op_May.l0])
    | succ k1 =>
      have H := HA.out
      clear HA
      simp only [op_May.l0] at H
      by_cases c2 : x8_1 < (l0.length : Int)
      · rw [if_pos c2] at H
        have c2b0 : decide (x8_1 < (l0.length : Int)) = true := decide_eq_true c2
        clear c2
        by_cases c3 : 0 ≤ x8_1
        · rw [if_pos c3] at H
          have c3b0 : decide (0 ≤ x8_1) = true := decide_eq_true c3
          clear c3
          by_cases c4 : x8_1 < (l0.length : Int)
          · rw [if_pos c4] at H
            have c4b0 : decide (x8_1 < (l0.length : Int)) = true := decide_eq_true c4
            clear c4
            replace H := Option.bind_eq_some_iff.mp H
            obtain ⟨t103, A50, H⟩ := H
            replace H : (if t103 = 0 then (op_May.l0 k1 l0 l0 (l0.length : Int) (wrap64 (x8_1 + 1))) else (some t103)) = some r := H
            have A5 := Aside0.mk A50
            clear A50
            by_cases c6 : t103 = 0
            · rw [if_pos c6] at H
              have c6b0 : (t103 == 0) = true := beq_iff_eq.mpr c6
              have c6b1 : (t103 != 0) = false := bne_eq_false_iff_eq.mpr c6
              clear c6
              have H' := Aside0.mk H
              clear H
              have p101 : 0 ≤ (x8_1 : Int) := of_decide_eq_true (by first | (with_reducible assumption) | assumption)
              have q101 : x8_1 < (l0.length : Int) := of_decide_eq_true (by first | (with_reducible assumption) | assumption)
              obtain ⟨ad101, e101, hx101_0, hx101_1, hx101_2⟩ := at_T33 HR0.out x8_1 p101 q101
              cases e101
              replace hx101_0 := (HB.out.cell (World.block_lt_of_cell? w _ hx101_0)).trans hx101_0
              replace hx101_1 := (HB.out.cell (World.block_lt_of_cell? w _ hx101_1)).trans hx101_1
              replace hx101_2 := (HB.out.cell (World.block_lt_of_cell? w _ hx101_2)).trans hx101_2
              replace p101 := eq_true p101
              replace q101 := eq_true q101
              go_wp2_with (first | ((with_reducible refine gate_dst (N := 4) rfl ?_); refine box_event ?hg (N := 4) ?hd (cs := #[.int .i64 0, .int .i64 0, .string (⟨#[]⟩ : ByteArray)]) (t := 33) ?hr ?_; (case hd => rfl); (case hg => rfl); (case hr => first | (go_simp; done) | (go_simp; rfl)); intro gb102 hg w7 hbox hb; have n0_ := Aside0.mk (below_step (by repeat (first | (with_reducible first | exact HB.out | apply below_alloc | apply pw_below_drewN | apply below_drew1) | exact HB.out)) hb); have n1_ := Aside0.mk (hbox); have n2_ := Aside0.mk ((by rw [hg]; exact (below_size (by repeat (first | (with_reducible first | exact HB.out | apply below_alloc | apply pw_below_drewN | apply below_drew1) | exact HB.out))) : w.heap.size ≤ gb102)); have n3_ := Aside0.mk ((by rw [hg]; exact (below_size (by repeat (first | (with_reducible first | exact HB.out | apply below_alloc | apply pw_below_drewN | apply below_drew1) | exact HB.out))) : w.heap.size ≤ gb102)); clear HB; have HB := n0_; have BK102 := n1_; have GW102 := n2_; have GE102 := n3_; clear n0_ n1_ n2_ n3_; clear hb hbox hg; have hcz8_0 : w7.cell? ⟨gb102, 0, none⟩ = some (.int .i64 0) := (blk_cell BK102.out 0).trans rfl; have hcz8_1 : w7.cell? ⟨gb102, 1, none⟩ = some (.int .i64 0) := (blk_cell BK102.out 1).trans rfl; have hcz8_2 : w7.cell? ⟨gb102, 2, none⟩ = some (.string (⟨#[]⟩ : ByteArray)) := (blk_cell BK102.out 2).trans rfl; have hfz8_0 := blk_frozen BK102.out 0; have hfz8_1 := blk_frozen BK102.out 1; have hfz8_2 := blk_frozen BK102.out 2) | ((with_reducible refine gate_callee (f := 57) rfl ?_); refine goesL_ (some 13) rfl rfl Tryd.func57 (by kernel_rfl) rfl #[.agg #[.int .i64 ((rd_T33 l0 x8_1).f0), .int .i64 ((rd_T33 l0 x8_1).f1), .string ((rd_T33 l0 x8_1).f2)]] rfl (by (try simp only [List.map_toArray, List.map_cons, List.map_nil]); first | done | rfl | (simp only [List.length_drop, List.length_take]; rfl)) ?_; (with_reducible refine (span_May.calls k1 ((rd_T33 l0 x8_1).f0) ((rd_T33 l0 x8_1).f1) ((rd_T33 l0 x8_1).f2) t103 _ ?side1 A5.out).mono ?_); (case side1 => first | (with_reducible exact HG.out) | exact Glob.below HG.out (by repeat (first | (with_reducible first | exact HB.out | apply below_alloc | apply pw_below_drewN | apply below_drew1 | refine below_set ?_ GE102.out) | exact HB.out)) | exact Glob.drawn HG.out (by repeat (first | exact Drawn0.refl _ | apply Drawn0.step))); rintro e w9 ⟨rfl, hb⟩; refine ⟨_, rfl, ?_⟩; have n0_ := Aside0.mk (blk_below (g := gb102) (o := .cells #[.int .i64 ((rd_T33 l0 x8_1).f0), .int .i64 ((rd_T33 l0 x8_1).f1), .string ((rd_T33 l0 x8_1).f2)] 33 (0, 0)) (by (with_reducible repeat (first | refine blk_drewN ?_ _ | refine blk_drew ?_ | refine blk_alloc ?_ _)); refine blk_put (cs := #[.int .i64 ((rd_T33 l0 x8_1).f0), .int .i64 ((rd_T33 l0 x8_1).f1), .string (⟨#[]⟩ : ByteArray)]) ?_ 2 _ rfl; (with_reducible repeat (first | refine blk_drewN ?_ _ | refine blk_drew ?_ | refine blk_alloc ?_ _)); refine blk_put (cs := #[.int .i64 ((rd_T33 l0 x8_1).f0), .int .i64 0, .string (⟨#[]⟩ : ByteArray)]) ?_ 1 _ rfl; (with_reducible repeat (first | refine blk_drewN ?_ _ | refine blk_drew ?_ | refine blk_alloc ?_ _)); refine blk_put (cs := #[.int .i64 0, .int .i64 0, .string (⟨#[]⟩ : ByteArray)]) ?_ 0 _ rfl; (with_reducible repeat (first | refine blk_drewN ?_ _ | refine blk_drew ?_ | refine blk_alloc ?_ _)); exact BK102.out) hb); have n1_ := Aside0.mk (below_step (by repeat (first | (with_reducible first | exact HB.out | apply below_alloc | apply pw_below_drewN | apply below_drew1 | refine below_set ?_ GE102.out) | exact HB.out)) hb); clear BK102; clear HB; have BK102 := n0_; have HB := n1_; clear n0_ n1_; (try clear hb); (try clear hb2); (try clear hk); (try clear hi)))
              go_roundg k1
              case measure => have := HK1.out; omega
              case rel => exact ⟨(wrap64 (x8_1 + 1)), (by first | rfl | (simp; done) | (simp [*]; done)), H', ⟨by have := HK1.out; omega⟩, ⟨by repeat (first | (with_reducible first | exact HB.out | apply below_alloc | apply pw_below_drewN | apply below_drew1 | refine below_set ?_ GE102.out) | exact HB.out)⟩⟩
            · rw [if_neg c6] at H
              have c6b0 : (t103 == 0) = false := beq_eq_false_iff_ne.mpr c6
              have c6b1 : (t103 != 0) = true := bne_iff_ne.mpr c6
              obtain rfl := Option.some.inj H
              have p101 : 0 ≤ (x8_1 : Int) := of_decide_eq_true (by first | (with_reducible assumption) | assumption)
              have q101 : x8_1 < (l0.length : Int) := of_decide_eq_true (by first | (with_reducible assumption) | assumption)
              obtain ⟨ad101, e101, hx101_0, hx101_1, hx101_2⟩ := at_T33 HR0.out x8_1 p101 q101
              cases e101
              replace hx101_0 := (HB.out.cell (World.block_lt_of_cell? w _ hx101_0)).trans hx101_0
              replace hx101_1 := (HB.out.cell (World.block_lt_of_cell? w _ hx101_1)).trans hx101_1
              replace hx101_2 := (HB.out.cell (World.block_lt_of_cell? w _ hx101_2)).trans hx101_2
              replace p101 := eq_true p101
              replace q101 := eq_true q101
              go_wp2_with (first | ((with_reducible refine gate_dst (N := 4) rfl ?_); refine box_event ?hg (N := 4) ?hd (cs := #[.int .i64 0, .int .i64 0, .string (⟨#[]⟩ : ByteArray)]) (t := 33) ?hr ?_; (case hd => rfl); (case hg => rfl); (case hr => first | (go_simp; done) | (go_simp; rfl)); intro gb102 hg w10 hbox hb; have n0_ := Aside0.mk (below_step (by repeat (first | (with_reducible first | exact HB.out | apply below_alloc | apply pw_below_drewN | apply below_drew1) | exact HB.out)) hb); have n1_ := Aside0.mk (hbox); have n2_ := Aside0.mk ((by rw [hg]; exact (below_size (by repeat (first | (with_reducible first | exact HB.out | apply below_alloc | apply pw_below_drewN | apply below_drew1) | exact HB.out))) : w.heap.size ≤ gb102)); have n3_ := Aside0.mk ((by rw [hg]; exact (below_size (by repeat (first | (with_reducible first | exact HB.out | apply below_alloc | apply pw_below_drewN | apply below_drew1) | exact HB.out))) : w.heap.size ≤ gb102)); clear HB; have HB := n0_; have BK102 := n1_; have GW102 := n2_; have GE102 := n3_; clear n0_ n1_ n2_ n3_; clear hb hbox hg; have hcz11_0 : w10.cell? ⟨gb102, 0, none⟩ = some (.int .i64 0) := (blk_cell BK102.out 0).trans rfl; have hcz11_1 : w10.cell? ⟨gb102, 1, none⟩ = some (.int .i64 0) := (blk_cell BK102.out 1).trans rfl; have hcz11_2 : w10.cell? ⟨gb102, 2, none⟩ = some (.string (⟨#[]⟩ : ByteArray)) := (blk_cell BK102.out 2).trans rfl; have hfz11_0 := blk_frozen BK102.out 0; have hfz11_1 := blk_frozen BK102.out 1; have hfz11_2 := blk_frozen BK102.out 2) | ((with_reducible refine gate_callee (f := 57) rfl ?_); refine goesL_ (some 13) rfl rfl Tryd.func57 (by kernel_rfl) rfl #[.agg #[.int .i64 ((rd_T33 l0 x8_1).f0), .int .i64 ((rd_T33 l0 x8_1).f1), .string ((rd_T33 l0 x8_1).f2)]] rfl (by (try simp only [List.map_toArray, List.map_cons, List.map_nil]); first | done | rfl | (simp only [List.length_drop, List.length_take]; rfl)) ?_; (with_reducible refine (span_May.calls k1 ((rd_T33 l0 x8_1).f0) ((rd_T33 l0 x8_1).f1) ((rd_T33 l0 x8_1).f2) t103 _ ?side1 A5.out).mono ?_); (case side1 => first | (with_reducible exact HG.out) | exact Glob.below HG.out (by repeat (first | (with_reducible first | exact HB.out | apply below_alloc | apply pw_below_drewN | apply below_drew1 | refine below_set ?_ GE102.out) | exact HB.out)) | exact Glob.drawn HG.out (by repeat (first | exact Drawn0.refl _ | apply Drawn0.step))); rintro e w12 ⟨rfl, hb⟩; refine ⟨_, rfl, ?_⟩; have n0_ := Aside0.mk (blk_below (g := gb102) (o := .cells #[.int .i64 ((rd_T33 l0 x8_1).f0), .int .i64 ((rd_T33 l0 x8_1).f1), .string ((rd_T33 l0 x8_1).f2)] 33 (0, 0)) (by (with_reducible repeat (first | refine blk_drewN ?_ _ | refine blk_drew ?_ | refine blk_alloc ?_ _)); refine blk_put (cs := #[.int .i64 ((rd_T33 l0 x8_1).f0), .int .i64 ((rd_T33 l0 x8_1).f1), .string (⟨#[]⟩ : ByteArray)]) ?_ 2 _ rfl; (with_reducible repeat (first | refine blk_drewN ?_ _ | refine blk_drew ?_ | refine blk_alloc ?_ _)); refine blk_put (cs := #[.int .i64 ((rd_T33 l0 x8_1).f0), .int .i64 0, .string (⟨#[]⟩ : ByteArray)]) ?_ 1 _ rfl; (with_reducible repeat (first | refine blk_drewN ?_ _ | refine blk_drew ?_ | refine blk_alloc ?_ _)); refine blk_put (cs := #[.int .i64 0, .int .i64 0, .string (⟨#[]⟩ : ByteArray)]) ?_ 0 _ rfl; (with_reducible repeat (first | refine blk_drewN ?_ _ | refine blk_drew ?_ | refine blk_alloc ?_ _)); exact BK102.out) hb); have n1_ := Aside0.mk (below_step (by repeat (first | (with_reducible first | exact HB.out | apply below_alloc | apply pw_below_drewN | apply below_drew1 | refine below_set ?_ GE102.out) | exact HB.out)) hb); clear BK102; clear HB; have BK102 := n0_; have HB := n1_; clear n0_ n1_; (try clear hb); (try clear hb2); (try clear hk); (try clear hi)))
              go_ret
              exact ⟨by first | rfl | (simp [errW_none, errW_some] <;> rfl) | (simp [*, errW_none, errW_some] <;> rfl), by repeat (first | (with_reducible first | exact HB.out | apply below_alloc | apply pw_below_drewN | apply below_drew1 | refine below_set ?_ GE102.out) | exact HB.out)⟩
          · rw [if_neg c4] at H
            exact absurd H (by simp)
        · rw [if_neg c3] at H
          exact absurd H (by simp)
      · rw [if_neg c2] at H
        have c2b0 : decide (x8_1 < (l0.length : Int)) = false := decide_eq_false c2
        clear c2
        replace H := Option.bind_eq_some_iff.mp H
        obtain ⟨t104, A130, H⟩ := H
        replace H : (if t104 > 1048576 then (some 4) else (some 0)) = some r := H
        have A13 := Aside0.mk A130
        clear A130
        by_cases c14 : t104 > 1048576
        · rw [if_pos c14] at H
          have c14b0 : decide (1048576 < t104) = true := decide_eq_true c14
          clear c14
          obtain rfl := Option.some.inj H
          go_wp2_with (first | ((with_reducible refine gate_callee (f := 20) rfl ?_); refine goesL_ (some 19) rfl rfl Tryd.func20 (by kernel_rfl) rfl #[.slice A0 l0.length c0] rfl (by (try simp only [List.map_toArray, List.map_cons, List.map_nil]); first | done | rfl | (simp only [List.length_drop, List.length_take]; rfl)) ?_; (with_reducible refine (op_In.calls k1 _ _ l0 t104 _ ?side1 ?side2 ?side3 A13.out).mono ?_); (case side1 => first | (with_reducible exact HG.out) | exact Glob.below HG.out (by repeat (first | (with_reducible first | exact HB.out | apply below_alloc | apply pw_below_drewN | apply below_drew1) | exact HB.out)) | exact Glob.drawn HG.out (by repeat (first | exact Drawn0.refl _ | apply Drawn0.step))); (case side2 => repeat (first | exact (Kd.C_below HR0.out HB.out) | (with_reducible refine Kd.C_alloc ?_ _) | (with_reducible refine Kd.C_drewN ?_ _) | (with_reducible refine Kd.C_drew ?_))); (case side3 => exact HC0.out); rintro e w15 ⟨rfl, hb⟩; refine ⟨_, rfl, ?_⟩; have n0_ := Aside0.mk (below_step (by repeat (first | (with_reducible first | exact HB.out | apply below_alloc | apply pw_below_drewN | apply below_drew1) | exact HB.out)) hb); clear HB; have HB := n0_; clear n0_; (try clear hb); (try clear hb2); (try clear hk); (try clear hi)))
          go_ret
          exact ⟨by first | rfl | (simp [errW_none, errW_some] <;> rfl) | (simp [*, errW_none, errW_some] <;> rfl), by repeat (first | (with_reducible first | exact HB.out | apply below_alloc | apply pw_below_drewN | apply below_drew1) | exact HB.out)⟩
        · rw [if_neg c14] at H
          have c14b0 : decide (1048576 < t104) = false := decide_eq_false c14
          clear c14
          obtain rfl := Option.some.inj H
          go_wp2_with (first | ((with_reducible refine gate_callee (f := 20) rfl ?_); refine goesL_ (some 19) rfl rfl Tryd.func20 (by kernel_rfl) rfl #[.slice A0 l0.length c0] rfl (by (try simp only [List.map_toArray, List.map_cons, List.map_nil]); first | done | rfl | (simp only [List.length_drop, List.length_take]; rfl)) ?_; (with_reducible refine (op_In.calls k1 _ _ l0 t104 _ ?side1 ?side2 ?side3 A13.out).mono ?_); (case side1 => first | (with_reducible exact HG.out) | exact Glob.below HG.out (by repeat (first | (with_reducible first | exact HB.out | apply below_alloc | apply pw_below_drewN | apply below_drew1) | exact HB.out)) | exact Glob.drawn HG.out (by repeat (first | exact Drawn0.refl _ | apply Drawn0.step))); (case side2 => repeat (first | exact (Kd.C_below HR0.out HB.out) | (with_reducible refine Kd.C_alloc ?_ _) | (with_reducible refine Kd.C_drewN ?_ _) | (with_reducible refine Kd.C_drew ?_))); (case side3 => exact HC0.out); rintro e w16 ⟨rfl, hb⟩; refine ⟨_, rfl, ?_⟩; have n0_ := Aside0.mk (below_step (by repeat (first | (with_reducible first | exact HB.out | apply below_alloc | apply pw_below_drewN | apply below_drew1) | exact HB.out)) hb); clear HB; have HB := n0_; clear n0_; (try clear hb); (try clear hb2); (try clear hk); (try clear hi)))
          go_ret
          exact ⟨by first | rfl | (simp [errW_none, errW_some] <;> rfl) | (simp [*, errW_none, errW_some] <;> rfl), by repeat (first | (with_reducible first | exact HB.out | apply below_alloc | apply pw_below_drewN | apply below_drew1) | exact HB.out)⟩
end Go.Proofs.YtkgicpnnlkcaeaaDoor.F
end
section
namespace Go.Proofs.YtkgicpnnlkcaeaaDoor.F
open Go.RowKit Go.Proofs.YtkgicpnnlkcaeaaDoorW.PrintWords Go.Proofs.YtkgicpnnlkcaeaaDoorW.PrintLast Go.Proofs.YtkgicpnnlkcaeaaDoorW.PrintMore
set_option linter.unusedVariables false
set_option linter.unusedSimpArgs false
def addW0 (l : List S33) (kind n : Int) (text : ByteArray) : Option (List S33) :=
  if n = 0 ∧ text.toList = [] then some l
  else if 0 < l.length ∧ (rd_T33 l ((l.length : Int) - 1)).f0 = kind then
    (if (rd_T33 l ((l.length : Int) - 1)).f2.size + text.size ≤ 9223372036854775807 then
      some (l.set (l.length - 1) ⟨(rd_T33 l ((l.length : Int) - 1)).f0, wrap64 ((rd_T33 l ((l.length : Int) - 1)).f1 + n), (rd_T33 l ((l.length : Int) - 1)).f2 ++ text⟩) else none)
  else if l.length + 1 ≤ 4398046511104 then some (l ++ [⟨kind, n, text⟩]) else none
def addW (l : List S33) (kind n : Int) (text : ByteArray) : Option (List S33) := if l.length ≤ 4398046511104 then addW0 l kind n text else none
def But (w w' : World) (g : Nat) (row : Option Nat) : Prop := ∀ k, k < w.heap.size → k ≠ g → some k ≠ row → w'.heap[k]? = w.heap[k]?
theorem But.refl (w : World) (g : Nat) (row : Option Nat) : But w w g row := fun _ _ _ _ => rfl
def AddPost (ok : Nat → Prop) (w0 w : World) (g : Nat) (row : Option Nat) (l' : List S33) (e : Ending) (w' : World) : Prop := ∃ v' : Value, e = .returned (.tuple #[]) ∧
      w'.heap[g]? = some (.cells #[v'] 81 (0, 0)) ∧ Kd.R k33 33 w' w0.heap.size ok v' l' ∧ Below w0.heap.size w0 w' ∧ But w w' g row ∧ w.heap.size ≤ w'.heap.size
set_option maxHeartbeats 4000000 in
set_option maxRecDepth 100000 in
theorem writer_add.calls (g : Nat) (v : Value) (l l' : List S33) (a1 a2 : Int) (a3 : ByteArray) (ok : Nat → Prop) (w0 w : World)
    (hblk : w.heap[g]? = some (.cells #[v] 81 (0, 0))) (hg : w0.heap.size ≤ g) (ho : Kd.R k33 33 w w0.heap.size ok v l) (hok : ∀ k, ok k → k ≠ g) (hfr : ∀ k, w.heap.size ≤ k → ok k)
    (hB : Below w0.heap.size w0 w) (h : addW l a1 a2 a3 = some l') :
    Calls Tryd.prog 51 #[.pointer (some ⟨g, 0, none⟩), .int .i64 a1, .int .i64 a2, .string a3] w (AddPost ok w0 w g v.ownBlock l') := by
  obtain ⟨A, c, rfl⟩ := Kd.R_slice ho
  have HO := Aside0.mk ho
  have HB := Aside0.mk hB
  have HG := Aside0.mk hg
  have HK := Aside0.mk hok
  have HF := Aside0.mk hfr
  have BK := Aside0.mk hblk
  have hl : l.length ≤ 4398046511104 := by
    unfold addW at h
    split at h
    · assumption
    · cases h
  rw [addW, if_pos hl] at h
  have HL := Aside0.mk hl
  have hz0 : w.cell? ⟨g, 0, none⟩ = some (.slice A l.length c) := (blk_cell hblk 0).trans rfl
  have hf0 := blk_frozen hblk 0
  have hu := Tryd.underlying33
  unfold addW0 at h
  clear ho hB hg hok hfr hblk
  by_cases h1 : a2 = 0 ∧ a3.toList = []
  · rw [if_pos h1] at h
    obtain rfl := Option.some.inj h
    obtain ⟨h2, h3⟩ := h1
    have b1 : (a2 == 0) = true := by simp [h2]
    have b2 : a3.toList.isEmpty = true := by simp [h3]
    clear h h2
    go_enter Tryd.func51, Tryd.ntmps51
    go_wp2
    go_end0
    exact ⟨_, rfl, BK.out, HO.out, HB.out, But.refl _ _ _, Nat.le_refl _⟩
  · rw [if_neg h1] at h
    have t1 : (a2 == 0) = true → a3.toList.isEmpty = false := by
      intro e
      cases hh : a3.toList with
      | nil => exact absurd ⟨by simpa using e, hh⟩ h1
      | cons _ _ => rfl
    by_cases h2 : 0 < l.length ∧ (rd_T33 l ((l.length : Int) - 1)).f0 = a1
    · rw [if_pos h2] at h
      split at h
      · next hs =>
        have HLL := Aside0.mk (Option.some.inj h)
        clear h
        obtain ⟨hp, he⟩ := h2
        obtain ⟨m, hm⟩ : ∃ m, l.length = m + 1 := ⟨l.length - 1, by omega⟩
        have hw : ((l.length : Int) - 1) = ((m : Nat) : Int) := by omega
        rw [hw] at hs he
        obtain ⟨go, co, eo, gb, gl, cl, HGo⟩ := Kd.R_form HO.out hp
        injection eo with ea en ec
        subst ea
        subst ec
        obtain ⟨ce, hcl, hM, hcc, hfr⟩ := Kd.R_elem HO.out z33 (m : Int) (by omega) (by omega)
        obtain rfl := k33_openM hM
        have hgo : go ≠ g := by
          have := HK.out go (HO.out.1 go (by simp [Value.ownBlock]))
          exact this
        have hgo' : g ≠ go := fun e => hgo e.symm
        have hge : rd_T33 l (m : Int) = l.getD m z33 := by unfold rd_T33; rw [Int.toNat_natCast]
        have hx0 : w.cell? ⟨go, m * 3, none⟩ = some (.int .i64 (rd_T33 l (m : Int)).f0) := hcc 0 _ rfl
        have hx1 : w.cell? ⟨go, m * 3 + 1, none⟩ = some (.int .i64 (rd_T33 l (m : Int)).f1) := hcc 1 _ rfl
        have hx2 : w.cell? ⟨go, m * 3 + 2, none⟩ = some (.string (rd_T33 l (m : Int)).f2) := hcc 2 _ rfl
        have hfz1 : w.frozen? ⟨go, m * 3 + 1, none⟩ = false := hfr 1
        have hfz2 : w.frozen? ⟨go, m * 3 + 2, none⟩ = false := hfr 2
        -- the two stores
        have HP1 := Kd.R_seg HO.out (m : Int) (by omega) (by omega) (seg := [.int .i64 (wrap64 ((rd_T33 l (m : Int)).f1 + a2))]) (j := 1) hcl hcc (show 2 ≤ 3 from by decide)
          (x' := (⟨(rd_T33 l (m : Int)).f0, wrap64 ((rd_T33 l (m : Int)).f1 + a2), (rd_T33 l (m : Int)).f2⟩ : S33)) (k33_mkM _ _ _ (⟨(rd_T33 l (m : Int)).f0, wrap64 ((rd_T33 l (m : Int)).f1 + a2), (rd_T33 l (m : Int)).f2⟩ : S33)) (fun _ hk => hk)
        obtain ⟨HO1, HG1⟩ := HP1
        have hlen1 : (l.set (m : Int).toNat (⟨(rd_T33 l (m : Int)).f0, wrap64 ((rd_T33 l (m : Int)).f1 + a2), (rd_T33 l (m : Int)).f2⟩ : S33)).length = l.length := List.length_set
        obtain ⟨ce1, hcl1, hM1, hcc1, hfr1⟩ := Kd.R_elem HO1 z33 (m : Int) (by omega) (by omega)
        have hge1 : (l.set (m : Int).toNat (⟨(rd_T33 l (m : Int)).f0, wrap64 ((rd_T33 l (m : Int)).f1 + a2), (rd_T33 l (m : Int)).f2⟩ : S33)).getD (m : Int).toNat z33 = ⟨(rd_T33 l (m : Int)).f0, wrap64 ((rd_T33 l (m : Int)).f1 + a2), (rd_T33 l (m : Int)).f2⟩ := by
          rw [List.getD_eq_getElem?_getD, List.getElem?_set_self (by rw [Int.toNat_natCast]; omega)]
          rfl
        rw [hge1] at hM1
        obtain rfl := k33_openM hM1
        have HP2 := Kd.R_seg HO1 (m : Int) (by omega) (by omega) (seg := [.string ((rd_T33 l (m : Int)).f2 ++ a3)]) (j := 2) hcl1 hcc1 (show 3 ≤ 3 from by decide)
          (x' := (⟨(rd_T33 l (m : Int)).f0, wrap64 ((rd_T33 l (m : Int)).f1 + a2), (rd_T33 l (m : Int)).f2 ++ a3⟩ : S33)) (k33_mkM _ _ _ (⟨(rd_T33 l (m : Int)).f0, wrap64 ((rd_T33 l (m : Int)).f1 + a2), (rd_T33 l (m : Int)).f2 ++ a3⟩ : S33)) (fun _ hk => hk)
        obtain ⟨HO2, HG2⟩ := HP2
        have hx2' : (w.setCell ⟨go, m * 3 + 1, none⟩ (.int .i64 (wrap64 ((rd_T33 l (m : Int)).f1 + a2)))).cell? ⟨go, m * 3 + 2, none⟩ = some (.string (rd_T33 l (m : Int)).f2) := hcc1 2 _ rfl
        have hfz2' : (w.setCell ⟨go, m * 3 + 1, none⟩ (.int .i64 (wrap64 ((rd_T33 l (m : Int)).f1 + a2)))).frozen? ⟨go, m * 3 + 2, none⟩ = false := hfr1 2
        have bk1 : (w.setCell ⟨go, m * 3 + 1, none⟩ (.int .i64 (wrap64 ((rd_T33 l (m : Int)).f1 + a2)))).heap[g]? = some (.cells #[.slice (some ⟨go, 0, none⟩) l.length c] 81 (0, 0)) := (Below.heap_setCell w ⟨go, m * 3 + 1, none⟩ _ g hgo').trans BK.out
        have hz1 : (w.setCell ⟨go, m * 3 + 1, none⟩ (.int .i64 (wrap64 ((rd_T33 l (m : Int)).f1 + a2)))).cell? ⟨g, 0, none⟩ = some (.slice (some ⟨go, 0, none⟩) l.length c) := (blk_cell bk1 0).trans rfl
        have c1 : decide ((1 : Int) ≤ (l.length : Int)) = true := decide_eq_true (by omega)
        have c2 : decide ((0 : Int) ≤ (m : Int)) = true := decide_eq_true (by omega)
        have c3 : decide ((m : Int) < (l.length : Int)) = true := decide_eq_true (by omega)
        have c4 : ((rd_T33 l (m : Int)).f0 == a1) = true := by simp [he]
        have q1 : (m : Int) < (l.length : Int) := by omega
        have q2 : m < l.length := by omega
        have FIN : Aside0 (∀ w2 : World, w2 = (w.setCell ⟨go, m * 3 + 1, none⟩ (.int .i64 (wrap64 ((rd_T33 l (m : Int)).f1 + a2)))).setCell ⟨go, m * 3 + 2, none⟩ (.string ((rd_T33 l (m : Int)).f2 ++ a3)) →
            w2.heap[g]? = some (.cells #[.slice (some ⟨go, 0, none⟩) l.length c] 81 (0, 0)) ∧
            Kd.R k33 33 w2 w0.heap.size ok (.slice (some ⟨go, 0, none⟩) l.length c) l' ∧
            Below w0.heap.size w0 w2 ∧ But w w2 g (Value.slice (some ⟨go, 0, none⟩) l.length c).ownBlock ∧ w.heap.size ≤ w2.heap.size) := ⟨by
          intro w2 hw2
          have e1 : (l.set (m : Int).toNat (⟨(rd_T33 l (m : Int)).f0, wrap64 ((rd_T33 l (m : Int)).f1 + a2), (rd_T33 l (m : Int)).f2⟩ : S33)).set (m : Int).toNat (⟨(rd_T33 l (m : Int)).f0, wrap64 ((rd_T33 l (m : Int)).f1 + a2), (rd_T33 l (m : Int)).f2 ++ a3⟩ : S33) = l.set (l.length - 1) ⟨(rd_T33 l ((l.length : Int) - 1)).f0, wrap64 ((rd_T33 l ((l.length : Int) - 1)).f1 + a2), (rd_T33 l ((l.length : Int) - 1)).f2 ++ a3⟩ := by
            rw [List.set_set, hw, Int.toNat_natCast, show l.length - 1 = m by omega]
          rw [e1, HLL.out] at HO2
          subst hw2
          refine ⟨(Below.heap_setCell _ ⟨go, m * 3 + 2, none⟩ _ g hgo').trans bk1, HO2, ((HB.out.setCell gb _).setCell gb _), ?_, ?_⟩
          · intro k hk hkg hkr
            have hkgo : k ≠ go := fun e => hkr (by rw [e]; rfl)
            exact (Below.heap_setCell _ ⟨go, m * 3 + 2, none⟩ _ k hkgo).trans (Below.heap_setCell w ⟨go, m * 3 + 1, none⟩ _ k hkgo)
          · simp [World.setCell]⟩
        have hmb : (m : Int) ≤ 4398046511104 := by omega
        have t2 : a2 = 0 → a3.toList.isEmpty = false := fun e => t1 (by simp [e])
        clear HO1 HO2 HG1 HG2 hlen1 hcl1 hcc1 hfr1 hM1 hge1 hcl hcc hfr hM hge h1 bk1 HGo cl gl he hp hm hl HO HL
        by_cases z : a2 = 0
        · have b1 : (a2 == 0) = true := by simp [z]
          have b2 := t2 z
          clear t1 t2 z
          go_enter Tryd.func51, Tryd.ntmps51
          go_wp2
          go_end0
          have := FIN.out _ rfl
          exact ⟨_, rfl, this⟩
        · have b1 : (a2 == 0) = false := by simp [z]
          clear t1 t2 z
          go_enter Tryd.func51, Tryd.ntmps51
          go_wp2
          go_end0
          have := FIN.out _ rfl
          exact ⟨_, rfl, this⟩
      · cases h
    · rw [if_neg h2] at h
      split at h
      · next hs =>
        have HLL := Aside0.mk (Option.some.inj h)
        have HS := Aside0.mk hs
        have t2 : a2 = 0 → a3.toList.isEmpty = false := fun e => t1 (by simp [e])
        clear h t1 h1 hs
        by_cases h0 : l.length = 0
        · have hw : ((l.length : Int) - 1) = -1 := by omega
          clear h0 h2 hl HL
          by_cases z : a2 = 0
          · have b1 : (a2 == 0) = true := by simp [z]
            have b2 := t2 z
            clear t2 z
            go_enter Tryd.func51, Tryd.ntmps51
            go_wp2_with (first | ((with_reducible refine gate_builtin (b := .append) (xs := #[.tmp 19, .tmp 24]) rfl ?_); at_builtin; refine Kd.R_append k33 (w0 := w0) w0.heap.size rfl (.tmp 19) (.tmp 24) 34 33 (.agg #[.int .i64 0, .int .i64 0, .string ⟨#[]⟩]) 32 rfl Tryd.underlying34 info33 rfl (by decide) (by omega) _ l (⟨a1, a2, a3⟩ : S33) [.int .i64 a1, .int .i64 a2, .string a3] ok (fun _ => False) rfl rfl (k33_mkM _ _ _ (⟨a1, a2, a3⟩ : S33)) (fun _ hk => hk.elim) HF.out HO.out HB.out HB.out.size ?aL ?_; (case aL => have := HS.out; omega); intro v1 w1 ho1 hb1 hg1 hat1; obtain ⟨A1, c1_, e1_⟩ := Kd.R_slice ho1; subst e1_; simp only [List.length_append, List.length_cons, List.length_nil, Nat.zero_add] at ho1; have HO1 := Aside0.mk ho1; have HB1 := Aside0.mk hb1; have HG1 : Aside0 (w.grownBy w1 (Value.slice A l.length c).ownBlock) := Aside0.mk hg1; have bk1 := blk_grown BK.out hg1 (Kd.R_away HO.out HK.out); have hz1 := (blk_cell bk1 0).trans rfl; have hf1 := blk_frozen bk1 0; have BK1 := Aside0.mk bk1; clear ho1 hb1 hg1 hat1 bk1))
            go_end0
            refine ⟨.slice A1 (l.length + 1) c1_, rfl, ?_⟩
            rw [← HLL.out]
            refine ⟨blk_put BK1.out 0 _ rfl, Kd.R_far HO1.out HK.out _, HB1.out.setCell HG.out _, ?_, ?_⟩
            · intro k hk hkg hkr
              exact (Below.heap_setCell _ ⟨g, 0, none⟩ _ k hkg).trans (HG1.out.block k hk hkr)
            · have := HG1.out.size
              simpa [World.setCell] using this
          · have b1 : (a2 == 0) = false := by simp [z]
            clear t2 z
            go_enter Tryd.func51, Tryd.ntmps51
            go_wp2_with (first | ((with_reducible refine gate_builtin (b := .append) (xs := #[.tmp 19, .tmp 24]) rfl ?_); at_builtin; refine Kd.R_append k33 (w0 := w0) w0.heap.size rfl (.tmp 19) (.tmp 24) 34 33 (.agg #[.int .i64 0, .int .i64 0, .string ⟨#[]⟩]) 32 rfl Tryd.underlying34 info33 rfl (by decide) (by omega) _ l (⟨a1, a2, a3⟩ : S33) [.int .i64 a1, .int .i64 a2, .string a3] ok (fun _ => False) rfl rfl (k33_mkM _ _ _ (⟨a1, a2, a3⟩ : S33)) (fun _ hk => hk.elim) HF.out HO.out HB.out HB.out.size ?aL ?_; (case aL => have := HS.out; omega); intro v1 w1 ho1 hb1 hg1 hat1; obtain ⟨A1, c1_, e1_⟩ := Kd.R_slice ho1; subst e1_; simp only [List.length_append, List.length_cons, List.length_nil, Nat.zero_add] at ho1; have HO1 := Aside0.mk ho1; have HB1 := Aside0.mk hb1; have HG1 : Aside0 (w.grownBy w1 (Value.slice A l.length c).ownBlock) := Aside0.mk hg1; have bk1 := blk_grown BK.out hg1 (Kd.R_away HO.out HK.out); have hz1 := (blk_cell bk1 0).trans rfl; have hf1 := blk_frozen bk1 0; have BK1 := Aside0.mk bk1; clear ho1 hb1 hg1 hat1 bk1))
            go_end0
            refine ⟨.slice A1 (l.length + 1) c1_, rfl, ?_⟩
            rw [← HLL.out]
            refine ⟨blk_put BK1.out 0 _ rfl, Kd.R_far HO1.out HK.out _, HB1.out.setCell HG.out _, ?_, ?_⟩
            · intro k hk hkg hkr
              exact (Below.heap_setCell _ ⟨g, 0, none⟩ _ k hkg).trans (HG1.out.block k hk hkr)
            · have := HG1.out.size
              simpa [World.setCell] using this
        · have hp : 0 < l.length := by omega
          have he : ¬ (rd_T33 l ((l.length : Int) - 1)).f0 = a1 := fun e => h2 ⟨hp, e⟩
          obtain ⟨m, hm⟩ : ∃ m, l.length = m + 1 := ⟨l.length - 1, by omega⟩
          have hw : ((l.length : Int) - 1) = ((m : Nat) : Int) := by omega
          rw [hw] at he
          obtain ⟨go, co, eo, gb, gl, cl, HGo⟩ := Kd.R_form HO.out hp
          injection eo with ea en ec
          subst ea
          subst ec
          obtain ⟨ce, hcl, hM, hcc, hfr⟩ := Kd.R_elem HO.out z33 (m : Int) (by omega) (by omega)
          obtain rfl := k33_openM hM
          have hx0 : w.cell? ⟨go, m * 3, none⟩ = some (.int .i64 (rd_T33 l (m : Int)).f0) := hcc 0 _ rfl
          have c1 : decide ((1 : Int) ≤ (l.length : Int)) = true := decide_eq_true (by omega)
          have c2 : decide ((0 : Int) ≤ (m : Int)) = true := decide_eq_true (by omega)
          have c3 : decide ((m : Int) < (l.length : Int)) = true := decide_eq_true (by omega)
          have c4 : ((rd_T33 l (m : Int)).f0 == a1) = false := by simp [he]
          have q1 : (m : Int) < (l.length : Int) := by omega
          have q2 : m < l.length := by omega
          have hmb : (m : Int) ≤ 4398046511104 := by omega
          clear hcl hcc hfr hM HGo cl gl gb he hp hm h0 h2 hl HL
          by_cases z : a2 = 0
          · have b1 : (a2 == 0) = true := by simp [z]
            have b2 := t2 z
            clear t2 z
            go_enter Tryd.func51, Tryd.ntmps51
            go_wp2_with (first | ((with_reducible refine gate_builtin (b := .append) (xs := #[.tmp 19, .tmp 24]) rfl ?_); at_builtin; refine Kd.R_append k33 (w0 := w0) w0.heap.size rfl (.tmp 19) (.tmp 24) 34 33 (.agg #[.int .i64 0, .int .i64 0, .string ⟨#[]⟩]) 32 rfl Tryd.underlying34 info33 rfl (by decide) (by omega) _ l (⟨a1, a2, a3⟩ : S33) [.int .i64 a1, .int .i64 a2, .string a3] ok (fun _ => False) rfl rfl (k33_mkM _ _ _ (⟨a1, a2, a3⟩ : S33)) (fun _ hk => hk.elim) HF.out HO.out HB.out HB.out.size ?aL ?_; (case aL => have := HS.out; omega); intro v1 w1 ho1 hb1 hg1 hat1; obtain ⟨A1, c1_, e1_⟩ := Kd.R_slice ho1; subst e1_; simp only [List.length_append, List.length_cons, List.length_nil, Nat.zero_add] at ho1; have HO1 := Aside0.mk ho1; have HB1 := Aside0.mk hb1; have HG1 : Aside0 (w.grownBy w1 (Value.slice (some ⟨go, 0, none⟩) l.length c).ownBlock) := Aside0.mk hg1; have bk1 := blk_grown BK.out hg1 (Kd.R_away HO.out HK.out); have hz1 := (blk_cell bk1 0).trans rfl; have hf1 := blk_frozen bk1 0; have BK1 := Aside0.mk bk1; clear ho1 hb1 hg1 hat1 bk1))
            go_end0
            refine ⟨.slice A1 (l.length + 1) c1_, rfl, ?_⟩
            rw [← HLL.out]
            refine ⟨blk_put BK1.out 0 _ rfl, Kd.R_far HO1.out HK.out _, HB1.out.setCell HG.out _, ?_, ?_⟩
            · intro k hk hkg hkr
              exact (Below.heap_setCell _ ⟨g, 0, none⟩ _ k hkg).trans (HG1.out.block k hk hkr)
            · have := HG1.out.size
              simpa [World.setCell] using this
          · have b1 : (a2 == 0) = false := by simp [z]
            clear t2 z
            go_enter Tryd.func51, Tryd.ntmps51
            go_wp2_with (first | ((with_reducible refine gate_builtin (b := .append) (xs := #[.tmp 19, .tmp 24]) rfl ?_); at_builtin; refine Kd.R_append k33 (w0 := w0) w0.heap.size rfl (.tmp 19) (.tmp 24) 34 33 (.agg #[.int .i64 0, .int .i64 0, .string ⟨#[]⟩]) 32 rfl Tryd.underlying34 info33 rfl (by decide) (by omega) _ l (⟨a1, a2, a3⟩ : S33) [.int .i64 a1, .int .i64 a2, .string a3] ok (fun _ => False) rfl rfl (k33_mkM _ _ _ (⟨a1, a2, a3⟩ : S33)) (fun _ hk => hk.elim) HF.out HO.out HB.out HB.out.size ?aL ?_; (case aL => have := HS.out; omega); intro v1 w1 ho1 hb1 hg1 hat1; obtain ⟨A1, c1_, e1_⟩ := Kd.R_slice ho1; subst e1_; simp only [List.length_append, List.length_cons, List.length_nil, Nat.zero_add] at ho1; have HO1 := Aside0.mk ho1; have HB1 := Aside0.mk hb1; have HG1 : Aside0 (w.grownBy w1 (Value.slice (some ⟨go, 0, none⟩) l.length c).ownBlock) := Aside0.mk hg1; have bk1 := blk_grown BK.out hg1 (Kd.R_away HO.out HK.out); have hz1 := (blk_cell bk1 0).trans rfl; have hf1 := blk_frozen bk1 0; have BK1 := Aside0.mk bk1; clear ho1 hb1 hg1 hat1 bk1))
            go_end0
            refine ⟨.slice A1 (l.length + 1) c1_, rfl, ?_⟩
            rw [← HLL.out]
            refine ⟨blk_put BK1.out 0 _ rfl, Kd.R_far HO1.out HK.out _, HB1.out.setCell HG.out _, ?_, ?_⟩
            · intro k hk hkg hkr
              exact (Below.heap_setCell _ ⟨g, 0, none⟩ _ k hkg).trans (HG1.out.block k hk hkr)
            · have := HG1.out.size
              simpa [World.setCell] using this
      · cases h
def KindsMap (w : World) (b : Nat) : Prop :=
  ∃ (D : DataW Unit) (n : Nat), w.ownsMap Tryd.prog 4 (plainElem Tryd.prog 3) b n D ∧ Maps.IsMap D ∧ D.atKey (.bool false) (.lit (.int .i64 0)) = .lit (.int .i64 1) ∧ D.atKey (.bool true) (.lit (.int .i64 0)) = .lit (.int .i64 3)
theorem kinds_made (W : World) : ∃ w1 w2, (Instr.mapUpdate 82 (.map (some W.heap.size)) (.bool false) (.int .i64 1)).run Tryd.prog (W.alloc (.map #[] 0)) = .ok () w1 ∧
    (Instr.mapUpdate 82 (.map (some W.heap.size)) (.bool true) (.int .i64 3)).run Tryd.prog w1 = .ok () w2 ∧ KindsMap w2 W.heap.size ∧ W.grownBy w2 (some W.heap.size) ∧ W.heap.size < w2.heap.size := by
  have m0 : (W.alloc (.map #[] 0)).ownsMap Tryd.prog 4 (plainElem (H := Unit) Tryd.prog 3) W.heap.size 0 (.map []) := World.ownsMap_made _ _ _ _
  obtain ⟨w1, r1, o1, g1⟩ := m0.update (Maps.bool_keyed Tryd.underlying4) Tryd.underlying82 (by unfold maxLen; omega) (Maps.keyOf_bool_mk Tryd.underlying4 false) (plainElem_int Tryd.underlying3 (a := 1) (by decide))
  obtain ⟨w2, r2, o2, g2⟩ := o1.update (Maps.bool_keyed Tryd.underlying4) Tryd.underlying82 (by unfold maxLen; omega) (Maps.keyOf_bool_mk Tryd.underlying4 true) (plainElem_int Tryd.underlying3 (a := 3) (by decide))
  have i0 : Maps.IsMap (DataW.map [] : DataW Unit) := Maps.isMap_empty
  have hg : W.grownBy w2 (some W.heap.size) := ((World.grownBy_alloc W (.map #[] 0) (some W.heap.size)).trans g1).trans g2
  refine ⟨w1, w2, r1, r2, ⟨_, _, o2, (i0.put _ _).put _ _, ?_, ?_⟩, hg, o2.lt⟩
  · rw [Maps.atKey_put_other (by intro h; cases h), Maps.atKey_put_same i0 (by simp [WideAt.IsKeyLit])]
  · rw [Maps.atKey_put_same (i0.put _ _) (by simp [WideAt.IsKeyLit])]
theorem kinds_get {w : World} {b : Nat} (h : KindsMap w b) (x : Bool) : (Instr.lookup 82 (.map (some b)) (.bool x) false).run Tryd.prog w = .ok (.int .i64 (if x = true then 3 else 1)) w := by
  obtain ⟨D, n, ho, hm, hf, ht⟩ := h
  obtain ⟨c, hr, hc, _⟩ := ho.lookup_int (Maps.bool_keyed Tryd.underlying4) Tryd.underlying82 Tryd.underlying3 (by kernel_rfl) (Maps.keyOf_bool_mk Tryd.underlying4 x)
  cases x with
  | false => rw [hf] at hc; simp at hc; subst hc; exact hr
  | true => rw [ht] at hc; simp at hc; subst hc; exact hr
theorem kinds_kept {w w1 : World} {b : Nat} (h : KindsMap w b) (hb : w1.heap[b]? = w.heap[b]?) : KindsMap w1 b := by
  obtain ⟨D, n, ⟨es, clock, hh, F, hs, hD⟩, hm⟩ := h
  exact ⟨D, n, ⟨es, clock, hb.trans hh, F, hs, hD⟩, hm⟩
theorem kinds_lt {w : World} {b : Nat} (h : KindsMap w b) : b < w.heap.size := by
  obtain ⟨D, n, ho, _⟩ := h
  exact ho.lt
end Go.Proofs.YtkgicpnnlkcaeaaDoor.F
end
section
namespace Go.Proofs.YtkgicpnnlkcaeaaDoor.F
open Go.RowKit Go.Proofs.YtkgicpnnlkcaeaaDoorW.PrintWords Go.Proofs.YtkgicpnnlkcaeaaDoorW.PrintLast Go.Proofs.YtkgicpnnlkcaeaaDoorW.PrintMore
set_option linter.unusedVariables false
set_option linter.unusedSimpArgs false
def spansL : List ByteArray → List Bool → List S33 → Option (List S33 × Int)
  | [], _, out => some (out, 0)
  | s :: r, [], out => (points_Valid.f s).bind fun b => if b = true then (addW out 2 0 s).bind fun o1 => spansL r [] o1 else some ([], 3)
  | s :: r, g :: gs, out => (points_Valid.f s).bind fun b => if b = true then (addW out 2 0 s).bind fun o1 => (addW o1 (if g = true then 3 else 1) 1 ⟨#[]⟩).bind fun o2 => spansL r gs o2 else some ([], 3)
def gaps_Spans.f (l0 : List ByteArray) (l1 : List Bool) : Option (List S33 × Int) :=
  if l1.length ≤ 140737488355328 then
    (if l0.length = l1.length + 1 then (if l1.length ≤ 512 then spansL l0 l1 [] else some ([], 4)) else some ([], 5))
  else none
theorem size_alloc (w : World) (o : Obj) : (w.alloc o).heap.size = w.heap.size + 1 := by
  show (w.heap.push o).size = _
  exact Array.size_push _
theorem string_at {w : World} {A : Option Addr} {l : List ByteArray} (h : Kd.C Kd.string w A l.length l) (i : Nat) (hi : i < l.length) : ∃ ad, A = some ad ∧ w.cell? (ad.add i) = some (.string (l[i]'hi)) := by
  obtain ⟨ad, e, hx⟩ := Kd.at_string h (i : Int) (by omega) (by omega)
  refine ⟨ad, e, ?_⟩
  rw [Int.toNat_natCast] at hx
  rw [hx]
  unfold rdOf
  rw [Int.toNat_natCast, List.getD_eq_getElem?_getD, List.getElem?_eq_getElem hi]
  rfl
theorem bool_at {w : World} {A : Option Addr} {l : List Bool} (h : Kd.C Kd.bool w A l.length l) (i : Nat) (hi : i < l.length) : ∃ ad, A = some ad ∧ w.cell? (ad.add i) = some (.bool (l[i]'hi)) := by
  obtain ⟨ad, e, hx⟩ := Kd.at_bool h (i : Int) (by omega) (by omega)
  refine ⟨ad, e, ?_⟩
  rw [Int.toNat_natCast] at hx
  rw [hx]
  unfold rdOf
  rw [Int.toNat_natCast, List.getD_eq_getElem?_getD, List.getElem?_eq_getElem hi]
  rfl
def spOk (w : World) (k : Nat) : Prop := w.heap.size + 1 + 1 < k
structure SpSt (w wr : World) (s0 s1 v : Value) (out : List S33) : Prop where
  b : Below w.heap.size w wr
  x : wr.heap[w.heap.size]? = some (.cells #[s0, s1] 28 (0, 0))
  p : wr.heap[w.heap.size + 1]? = some (.cells #[v] 81 (0, 0))
  o : Kd.R k33 33 wr w.heap.size (spOk w) v out
  k : KindsMap wr (w.heap.size + 1 + 1)
theorem SpSt.below {w wr w3 : World} {s0 s1 v : Value} {out : List S33} (h : SpSt w wr s0 s1 v out) (hb : Below wr.heap.size wr w3) : SpSt w w3 s0 s1 v out :=
  ⟨below_step h.b hb, blk_below h.x hb, blk_below h.p hb, Kd.R_below h.o hb, kinds_kept h.k (hb.block _ (kinds_lt h.k))⟩
theorem SpSt.add {w wr w3 : World} {s0 s1 v : Value} {out o1 : List S33} {e : Ending} (h : SpSt w wr s0 s1 v out) (hp : AddPost (spOk w) w wr (w.heap.size + 1) v.ownBlock o1 e w3) : e = .returned (.tuple #[]) ∧ ∃ v', SpSt w w3 s0 s1 v' o1 := by
  obtain ⟨v', he, hx, ho, hb, hbut, hsz⟩ := hp
  have hk := kinds_lt h.k
  have own : ∀ k, some k = v.ownBlock → w.heap.size + 1 + 1 < k := fun k e => h.o.1 k e.symm
  exact ⟨he, v', hb, (hbut _ (by omega) (by omega) (fun e => by have := own _ e; omega)).trans h.x, hx, ho, kinds_kept h.k (hbut _ hk (by omega) (fun e => by have := own _ e; omega))⟩
set_option maxHeartbeats 8000000 in
set_option maxRecDepth 100000 in
theorem gaps_Spans_loop (A0 : Option Addr) (c0 : Nat) (l0 : List ByteArray) (A1 : Option Addr) (c1 : Nat) (l1 : List Bool) (r1 : List S33) (r2 : Int) (w : World)
    (hr0 : Kd.C Kd.string w A0 l0.length l0) (hr1 : Kd.C Kd.bool w A1 l1.length l1) (hG : Glob w) (hl : l0.length = l1.length + 1) (h5 : l1.length ≤ 512) (h : spansL l0 l1 [] = some (r1, r2)) :
    Calls Tryd.prog 30 #[.agg #[.slice A0 l0.length c0, .slice A1 l1.length c1]] w fun e w' => ∃ v0_ : Value, e = .returned (.tuple #[v0_, .int .i64 r2]) ∧ Kd.R k33 33 w' w.heap.size (fun _ => True) v0_ r1 ∧ Below w.heap.size w w' := by
  have HR0 := Aside0.mk hr0
  have HR1 := Aside0.mk hr1
  have HG := Aside0.mk hG
  have HL := Aside0.mk hl
  have H5 := Aside0.mk h5
  have H := Aside0.mk h
  have d0 : (((l0.length : Nat) : Int) != (l1.length : Int) + 1) = false := by simp; omega
  have d1 : decide ((512 : Int) < (l1.length : Int)) = false := decide_eq_false (by omega)
  have d2 : (l1.length : Int) ≤ 512 := by omega
  have hmm := @run_makeMap Tryd.prog
  obtain ⟨u1, u2, k1, k2, k3, k4, k5⟩ := kinds_made ((w.alloc (.cells #[.slice A0 l0.length c0, .slice A1 l1.length c1] 28)).alloc (.cells #[.slice none 0 0] 81))
  have esz : ((w.alloc (.cells #[.slice A0 l0.length c0, .slice A1 l1.length c1] 28)).alloc (.cells #[.slice none 0 0] 81)).heap.size = w.heap.size + 1 + 1 := by rw [size_alloc, size_alloc]
  rw [esz] at k1 k2 k3 k4 k5
  have b1 : ((w.alloc (.cells #[.slice A0 l0.length c0, .slice A1 l1.length c1] 28)).alloc (.cells #[.slice none 0 0] 81)).heap[w.heap.size]? = some (.cells #[.slice A0 l0.length c0, .slice A1 l1.length c1] 28 (0, 0)) := blk_alloc (blk_new w _) _
  have b2 : ((w.alloc (.cells #[.slice A0 l0.length c0, .slice A1 l1.length c1] 28)).alloc (.cells #[.slice none 0 0] 81)).heap[w.heap.size + 1]? = some (.cells #[.slice none 0 0] 81 (0, 0)) := by
    have := blk_new (w.alloc (.cells #[.slice A0 l0.length c0, .slice A1 l1.length c1] 28)) (.cells #[.slice none 0 0] 81)
    rwa [show (w.alloc (.cells #[.slice A0 l0.length c0, .slice A1 l1.length c1] 28)).heap.size = w.heap.size + 1 from size_alloc _ _] at this
  have BX := Aside0.mk ((k4.block w.heap.size (by omega) (by intro e; injection e with e; omega)).trans b1)
  have BW := Aside0.mk ((k4.block (w.heap.size + 1) (by omega) (by intro e; injection e with e; omega)).trans b2)
  have HB : Aside0 (Below w.heap.size w u2) := ⟨(below_alloc (below_alloc (Below.refl _ _) _) _).grown k4 (by rw [esz]; omega) (fun k e => by injection e with e; omega)⟩
  have KM := Aside0.mk k3
  have KS := Aside0.mk k5
  have cx0 : u2.cell? ⟨w.heap.size, 0, none⟩ = some (.slice A0 l0.length c0) := (blk_cell BX.out 0).trans rfl
  have cx1 : u2.cell? ⟨w.heap.size, 1, none⟩ = some (.slice A1 l1.length c1) := (blk_cell BX.out 1).trans rfl
  clear hr0 hr1 hG hl h5 h k3 k4 k5 esz b1 b2
  go_enter Tryd.func30, Tryd.ntmps30
  go_wp2
  clear cx0 cx1 d0 d1 k1 k2
  go_loopg [27] l0.length (fun kq v27 w' => ∃ (i : Nat) (out : List S33) (v : Value), v27 = .int .i64 i ∧ Aside0 (i ≤ l0.length) ∧ Aside0 (kq = l0.length - i) ∧ Aside0 (SpSt w w' (.slice A0 l0.length c0) (.slice A1 l1.length c1) v out) ∧ Aside0 (spansL (l0.drop i) (l1.drop i) out = some (r1, r2)))
  case atStart => exact ⟨0, [], .slice none 0 0, rfl, ⟨Nat.zero_le _⟩, ⟨rfl⟩, ⟨HB.out, BX.out, BW.out, Kd.R_nil _ _ _ _ _, KM.out⟩, H⟩
  case round =>
    clear HB BX BW KM KS H
    obtain ⟨i, out, v, rfl, HI, HK, ST, H⟩ := hrel
    have hdd : (i : Int) ≤ 513 := by have := HI.out; have := HL.out; omega
    have cx0 : wr.cell? ⟨w.heap.size, 0, none⟩ = some (.slice A0 l0.length c0) := (blk_cell ST.out.x 0).trans rfl
    have cx1 : wr.cell? ⟨w.heap.size, 1, none⟩ = some (.slice A1 l1.length c1) := (blk_cell ST.out.x 1).trans rfl
    by_cases hi : i < l0.length
    · obtain ⟨ad, e, hx⟩ := string_at HR0.out i hi
      cases e
      replace hx := glob_cell ST.out.b hx
      have h := H.out
      rw [List.drop_eq_getElem_cons hi] at h
      obtain ⟨s, hs⟩ : ∃ s, l0[i] = s := ⟨_, rfl⟩
      rw [hs] at h hx
      have GW := Aside0.mk (HG.out.below ST.out.b)
      have i1 : decide (i < l0.length) = true := decide_eq_true hi
      by_cases hj : i < l1.length
      · rw [List.drop_eq_getElem_cons hj] at h
        obtain ⟨ad2, e2, hy⟩ := bool_at HR1.out i hj
        cases e2
        obtain ⟨bb, hbb⟩ : ∃ bb, l1[i] = bb := ⟨_, rfl⟩
        rw [hbb] at h hy
        have HY := Aside0.mk hy
        have i2 : decide (i < l1.length) = true := decide_eq_true hj
        rw [spansL] at h
        obtain ⟨b, hb, h0⟩ := Option.bind_eq_some_iff.1 h
        clear h
        have HV := Aside0.mk hb
        cases b with
        | false =>
          obtain ⟨rfl, rfl⟩ : [] = r1 ∧ 3 = r2 := by simpa using h0
          clear h0 hb hs hbb hy hj
          go_wp2_with (go_at_call 48; (with_reducible refine (points_Valid.calls _ _ _ GW.out HV.out).mono ?_); rintro e w3 ⟨rfl, hb⟩; have ST3 := Aside0.mk (ST.out.below hb); clear hb)
          go_ret2
          exact ⟨_, rfl, Kd.R_nil _ _ _ _ _, ST3.out.b⟩
        | true =>
          rw [if_pos rfl] at h0
          obtain ⟨o1, ho1, h1⟩ := Option.bind_eq_some_iff.1 h0
          obtain ⟨o2, ho2, h2⟩ := Option.bind_eq_some_iff.1 h1
          obtain ⟨kd, hkd⟩ : ∃ kd : Int, (if bb = true then (3 : Int) else 1) = kd := ⟨_, rfl⟩
          rw [hkd] at ho2
          have HKD := Aside0.mk hkd
          have H1 := Aside0.mk ho1
          have H2 := Aside0.mk ho2
          have HN := Aside0.mk h2
          have HF : Aside0 (∀ w3 : World, KindsMap w3 (w.heap.size + 1 + 1) → ∀ k, w3.heap.size ≤ k → spOk w k) := ⟨fun w3 hk k hle => by have := kinds_lt hk; unfold spOk; omega⟩
          have HKG : Aside0 (∀ k, spOk w k → k ≠ w.heap.size + 1) := ⟨fun k hk => by unfold spOk at hk; omega⟩
          have HSZ : Aside0 (w.heap.size ≤ w.heap.size + 1) := ⟨by omega⟩
          have tok1 : True := trivial
          clear h0 h1 h2 hb hs hbb hy ho1 ho2 hkd
          go_wp2_with (first | (go_at_call 48; (with_reducible refine (points_Valid.calls _ _ _ GW.out HV.out).mono ?_); rintro e w3 ⟨rfl, hb⟩; have ST3 := Aside0.mk (ST.out.below hb); clear hb) | (go_at_call 51; have _t := tok1; (with_reducible refine (writer_add.calls _ v out o1 _ _ _ (spOk w) w _ ST3.out.p HSZ.out ST3.out.o HKG.out (HF.out _ ST3.out.k) ST3.out.b H1.out).mono ?_); intro e w4 hp; obtain ⟨rfl, v4, st4⟩ := ST3.out.add hp; have ST4 := Aside0.mk st4; have cy1 := (blk_cell st4.x 1).trans (show _ = some (Value.slice (some ad2) l1.length c1) from rfl); have hy4 := glob_cell st4.b HY.out; have kg := kinds_get st4.k bb; rw [HKD.out] at kg; clear hp st4 tok1 _t) | (go_at_call 51; (with_reducible refine (writer_add.calls _ v4 o1 o2 _ _ _ (spOk w) w _ ST4.out.p HSZ.out ST4.out.o HKG.out (HF.out _ ST4.out.k) ST4.out.b H2.out).mono ?_); intro e w5 hp; obtain ⟨rfl, v5, st5⟩ := ST4.out.add hp; have ST5 := Aside0.mk st5; clear hp st5))
          go_roundg (l0.length - (i + 1))
          case measure => have := HK.out; omega
          case rel => exact ⟨i + 1, o2, v5, by go_num, ⟨by omega⟩, ⟨rfl⟩, ST5, HN⟩
      · rw [List.drop_eq_nil_of_le (show l1.length ≤ i by omega)] at h
        have i2 : decide (i < l1.length) = false := decide_eq_false hj
        rw [spansL] at h
        obtain ⟨b, hb, h0⟩ := Option.bind_eq_some_iff.1 h
        clear h
        have HV := Aside0.mk hb
        cases b with
        | false =>
          obtain ⟨rfl, rfl⟩ : [] = r1 ∧ 3 = r2 := by simpa using h0
          clear h0 hb hs hj
          go_wp2_with (go_at_call 48; (with_reducible refine (points_Valid.calls _ _ _ GW.out HV.out).mono ?_); rintro e w3 ⟨rfl, hb⟩; have ST3 := Aside0.mk (ST.out.below hb); clear hb)
          go_ret2
          exact ⟨_, rfl, Kd.R_nil _ _ _ _ _, ST3.out.b⟩
        | true =>
          rw [if_pos rfl] at h0
          obtain ⟨o1, ho1, h1⟩ := Option.bind_eq_some_iff.1 h0
          have H1 := Aside0.mk ho1
          have HN : Aside0 (spansL (l0.drop (i + 1)) (l1.drop (i + 1)) o1 = some (r1, r2)) := ⟨by rw [List.drop_eq_nil_of_le (show l1.length ≤ i + 1 by omega)]; exact h1⟩
          have HF : Aside0 (∀ w3 : World, KindsMap w3 (w.heap.size + 1 + 1) → ∀ k, w3.heap.size ≤ k → spOk w k) := ⟨fun w3 hk k hle => by have := kinds_lt hk; unfold spOk; omega⟩
          have HKG : Aside0 (∀ k, spOk w k → k ≠ w.heap.size + 1) := ⟨fun k hk => by unfold spOk at hk; omega⟩
          have HSZ : Aside0 (w.heap.size ≤ w.heap.size + 1) := ⟨by omega⟩
          clear h0 h1 hb hs ho1 hj
          go_wp2_with (first | (go_at_call 48; (with_reducible refine (points_Valid.calls _ _ _ GW.out HV.out).mono ?_); rintro e w3 ⟨rfl, hb⟩; have ST3 := Aside0.mk (ST.out.below hb); clear hb) | (go_at_call 51; (with_reducible refine (writer_add.calls _ v out o1 _ _ _ (spOk w) w _ ST3.out.p HSZ.out ST3.out.o HKG.out (HF.out _ ST3.out.k) ST3.out.b H1.out).mono ?_); intro e w4 hp; obtain ⟨rfl, v4, st4⟩ := ST3.out.add hp; have ST4 := Aside0.mk st4; have cy1 := (blk_cell st4.x 1).trans (show _ = some (Value.slice A1 l1.length c1) from rfl); clear hp st4))
          go_roundg (l0.length - (i + 1))
          case measure => have := HK.out; omega
          case rel => exact ⟨i + 1, o1, v4, by go_num, ⟨by omega⟩, ⟨rfl⟩, ST4, HN⟩
    · have hl : l0.length ≤ i := by omega
      have h := H.out
      rw [List.drop_eq_nil_of_le hl] at h
      obtain ⟨rfl, rfl⟩ : out = r1 ∧ 0 = r2 := by simpa [spansL] using h
      have ho := ST.out.o
      obtain ⟨Av, cv, rfl⟩ := Kd.R_slice ho
      have HO := Aside0.mk ho
      have cw : wr.cell? ⟨w.heap.size + 1, 0, none⟩ = some (.slice Av out.length cv) := (blk_cell ST.out.p 0).trans rfl
      have i1 : decide (i < l0.length) = false := decide_eq_false (by omega)
      clear hl h hi cx0 cx1 ho
      go_wp2
      go_ret2
      exact ⟨_, rfl, Kd.R_mono HO.out (fun _ _ => trivial), ST.out.b⟩
set_option maxHeartbeats 4000000 in
theorem gaps_Spans.calls (A0_0 : Option Addr) (c0_0 : Nat) (l0_0 : List ByteArray) (A0_1 : Option Addr) (c0_1 : Nat) (l0_1 : List Bool) (r1 : List S33) (r2 : Int) (w : World) (hG : Glob w)
    (hr0_0 : Kd.C Kd.string w A0_0 l0_0.length l0_0) (hc0_0 : l0_0.length ≤ c0_0) (hr0_1 : Kd.C Kd.bool w A0_1 l0_1.length l0_1) (hc0_1 : l0_1.length ≤ c0_1) (h : gaps_Spans.f l0_0 l0_1 = some (r1, r2)) :
    Calls Tryd.prog 30 #[.agg #[.slice A0_0 l0_0.length c0_0, .slice A0_1 l0_1.length c0_1]] w fun e w' => ∃ v0_ : Value, e = .returned (.tuple #[v0_, .int .i64 r2]) ∧ Kd.R k33 33 w' w.heap.size (fun _ => True) v0_ r1 ∧ Below w.heap.size w w' := by
  unfold gaps_Spans.f at h
  split at h
  · next hb =>
    have hbi : (l0_1.length : Int) ≤ 140737488355328 := by omega
    split at h
    · next he =>
      split at h
      · next h5 => exact gaps_Spans_loop A0_0 c0_0 l0_0 A0_1 c0_1 l0_1 r1 r2 w hr0_0 hr0_1 hG he h5 h
      · next h5 =>
        obtain ⟨rfl, rfl⟩ : [] = r1 ∧ 4 = r2 := by simpa using h
        have d0 : (((l0_0.length : Nat) : Int) != (l0_1.length : Int) + 1) = false := by simp; omega
        have d1 : decide ((512 : Int) < (l0_1.length : Int)) = true := decide_eq_true (by omega)
        clear hr0_0 hc0_0 hr0_1 hc0_1 h hb he h5 hG
        go_enter Tryd.func30, Tryd.ntmps30
        go_wp2
        go_ret2
        exact ⟨_, rfl, Kd.R_nil _ _ _ _ _, below_alloc (Below.refl _ _) _⟩
    · next he =>
      obtain ⟨rfl, rfl⟩ : [] = r1 ∧ 5 = r2 := by simpa using h
      have d0 : (((l0_0.length : Nat) : Int) != (l0_1.length : Int) + 1) = true := by simp; omega
      clear hr0_0 hc0_0 hr0_1 hc0_1 h hb he hG
      go_enter Tryd.func30, Tryd.ntmps30
      go_wp2
      go_ret2
      exact ⟨_, rfl, Kd.R_nil _ _ _ _ _, below_alloc (Below.refl _ _) _⟩
  · cases h
end Go.Proofs.YtkgicpnnlkcaeaaDoor.F
end
section
namespace Go.Proofs.YtkgicpnnlkcaeaaDoor.F
open Go.RowKit Go.Proofs.YtkgicpnnlkcaeaaDoorW.PrintWords Go.Proofs.YtkgicpnnlkcaeaaDoorW.PrintLast Go.Proofs.YtkgicpnnlkcaeaaDoorW.PrintMore
set_option linter.unusedVariables false
set_option linter.unusedSimpArgs false
def fillG (g : List Bool) (at_ n : Nat) (b : Bool) : List Bool := g.take at_ ++ List.replicate n b ++ g.drop (at_ + n)
def gapsL : List S33 → Nat → List ByteArray → List Bool → Option (List ByteArray × List Bool)
  | [], _, p, g => some (p, g)
  | s :: r, a, p, g => if a + s.f1.toNat ≤ 512 ∧ (p.getD a ⟨#[]⟩).size + s.f2.size ≤ 9223372036854775807 then
      gapsL r (a + s.f1.toNat) (p.set a (p.getD a ⟨#[]⟩ ++ s.f2)) (fillG g a s.f1.toNat (s.f0 == 3)) else none
def gaps_Of.f (k : Nat) (l : List S33) : Option (List ByteArray × List Bool × Int) :=
  (op_May.f k l).bind fun e => if e = 0 then ((op_In.f k l).bind fun n => if n > 512 then some ([], [], 4) else if 0 ≤ n then
    ((gapsL l 0 (List.replicate 513 ⟨#[]⟩) (List.replicate 512 false)).bind fun r => some (r.1.take (n.toNat + 1), r.2.take n.toNat, 0)) else none)
  else some ([], [], e)
theorem slice_arrP (W : World) (g n : Nat) (h : n ≤ 513) : (Instr.sliceAt 70 (.pointer (some ⟨g, 0, none⟩)) none (some (.int .i64 (n : Int))) none).run Tryd.prog W = .ok (.slice (some ⟨g, 0, none⟩) n 513) W := by
  have hl : Tryd.prog.arrayLen 70 = 513 := by kernel_rfl
  have hs : (Go.sizeOf (Tryd.prog.elem 70)).run Tryd.prog W = .ok 1 W := by kernel_rfl
  rw [run_sliceAt_array_h W 70 _ (by kernel_rfl) .i64 n (by omega) (by rw [hl]; omega), hs, hl]
  simp [slicedAt, Addr.add]
theorem slice_arrG (W : World) (g n : Nat) (h : n ≤ 512) : (Instr.sliceAt 71 (.pointer (some ⟨g, 0, none⟩)) none (some (.int .i64 (n : Int))) none).run Tryd.prog W = .ok (.slice (some ⟨g, 0, none⟩) n 512) W := by
  have hl : Tryd.prog.arrayLen 71 = 512 := by kernel_rfl
  have hs : (Go.sizeOf (Tryd.prog.elem 71)).run Tryd.prog W = .ok 1 W := by kernel_rfl
  rw [run_sliceAt_array_h W 71 _ (by kernel_rfl) .i64 n (by omega) (by rw [hl]; omega), hs, hl]
  simp [slicedAt, Addr.add]
structure OfSt (w wr : World) (gR gP gG : Nat) (put : List ByteArray) (gone : List Bool) : Prop where
  b : Below w.heap.size w wr
  r : wr.heap[gR]? = some (.cells #[.slice none 0 0, .slice none 0 0] 28 (0, 0))
  p : wr.heap[gP]? = some (.cells (put.map Value.string).toArray 70 (0, 0))
  g : wr.heap[gG]? = some (.cells (gone.map Value.bool).toArray 71 (0, 0))
  lp : put.length = 513
  lg : gone.length = 512
  hR : w.heap.size ≤ gR
  hP : w.heap.size ≤ gP
  hG : w.heap.size ≤ gG
theorem OfSt.below {w wr w3 : World} {gR gP gG : Nat} {put : List ByteArray} {gone : List Bool} (h : OfSt w wr gR gP gG put gone) (hb : Below wr.heap.size wr w3) : OfSt w w3 gR gP gG put gone :=
  ⟨below_step h.b hb, blk_below h.r hb, blk_below h.p hb, blk_below h.g hb, h.lp, h.lg, h.hR, h.hP, h.hG⟩
theorem OfSt.pg {w wr : World} {gR gP gG : Nat} {put : List ByteArray} {gone : List Bool} (h : OfSt w wr gR gP gG put gone) : gP ≠ gG := blk_ne h.p h.g (by decide)
theorem OfSt.rp {w wr : World} {gR gP gG : Nat} {put : List ByteArray} {gone : List Bool} (h : OfSt w wr gR gP gG put gone) : gR ≠ gP := blk_ne h.r h.p (by decide)
theorem OfSt.rg {w wr : World} {gR gP gG : Nat} {put : List ByteArray} {gone : List Bool} (h : OfSt w wr gR gP gG put gone) : gR ≠ gG := blk_ne h.r h.g (by decide)
theorem OfSt.setP {w wr : World} {gR gP gG : Nat} {put : List ByteArray} {gone : List Bool} (h : OfSt w wr gR gP gG put gone) (i : Nat) (u : ByteArray) : OfSt w (wr.setCell ⟨gP, i, none⟩ (.string u)) gR gP gG (put.set i u) gone :=
  ⟨h.b.setCell h.hP _, (Below.heap_setCell wr ⟨gP, i, none⟩ _ gR h.rp).trans h.r, blk_put h.p i _ (by simp [List.map_set]), (Below.heap_setCell wr ⟨gP, i, none⟩ _ gG h.pg.symm).trans h.g, by rw [List.length_set]; exact h.lp, h.lg, h.hR, h.hP, h.hG⟩
theorem OfSt.setG {w wr : World} {gR gP gG : Nat} {put : List ByteArray} {gone : List Bool} (h : OfSt w wr gR gP gG put gone) (i : Nat) (u : Bool) : OfSt w (wr.setCell ⟨gG, i, none⟩ (.bool u)) gR gP gG put (gone.set i u) :=
  ⟨h.b.setCell h.hG _, (Below.heap_setCell wr ⟨gG, i, none⟩ _ gR h.rg).trans h.r, (Below.heap_setCell wr ⟨gG, i, none⟩ _ gP h.pg).trans h.p, blk_put h.g i _ (by simp [List.map_set]), h.lp, by rw [List.length_set]; exact h.lg, h.hR, h.hP, h.hG⟩
theorem OfSt.cellP {w wr : World} {gR gP gG : Nat} {put : List ByteArray} {gone : List Bool} (h : OfSt w wr gR gP gG put gone) (i : Nat) (hi : i < 513) : wr.cell? ⟨gP, i, none⟩ = some (.string (put.getD i ⟨#[]⟩)) := by
  rw [blk_cell h.p i, List.getElem?_toArray, List.getElem?_map, List.getD_eq_getElem?_getD, List.getElem?_eq_getElem (by rw [h.lp]; exact hi)]
  rfl
theorem OfSt.cellG {w wr : World} {gR gP gG : Nat} {put : List ByteArray} {gone : List Bool} (h : OfSt w wr gR gP gG put gone) (i : Nat) (hi : i < 512) : wr.cell? ⟨gG, i, none⟩ = some (.bool (gone.getD i false)) := by
  rw [blk_cell h.g i, List.getElem?_toArray, List.getElem?_map, List.getD_eq_getElem?_getD, List.getElem?_eq_getElem (by rw [h.lg]; exact hi)]
  rfl
theorem of_vP {w wr : World} {gP : Nat} {put : List ByteArray} (hp : wr.heap[gP]? = some (.cells (put.map Value.string).toArray 70 (0, 0))) (hlen : put.length = 513) (hle : w.heap.size ≤ gP) (n : Nat) (hn : n ≤ 513) :
    Kd.V Kd.string 9 wr w.heap.size (fun k_ => w.heap.size ≤ k_) (.slice (some ⟨gP, 0, none⟩) n 513) (put.take n) := by
  have hl : (put.take n).length = n := by rw [List.length_take, hlen]; omega
  refine ⟨some ⟨gP, 0, none⟩, 513, by rw [hl], by omega, fun W' hW => ?_⟩
  have hb := (hW gP hle (blk_lt hp)).trans hp
  refine Kd.C_of_reads (enc := Value.string) (d := (⟨#[]⟩ : ByteArray)) (h1 := fun _ => rfl) ⟨rfl, by omega, fun _ => ⟨_, rfl, fun j hj => ?_⟩⟩
  rw [hl] at hj
  rw [add_plain, blk_cell hb j, List.getElem?_toArray, List.getElem?_map, List.getElem?_eq_getElem (by rw [hlen]; omega), List.getD_eq_getElem?_getD, List.getElem?_take, if_pos hj, List.getElem?_eq_getElem (by rw [hlen]; omega)]
  rfl
theorem of_vG {w wr : World} {gG : Nat} {gone : List Bool} (hp : wr.heap[gG]? = some (.cells (gone.map Value.bool).toArray 71 (0, 0))) (hlen : gone.length = 512) (hle : w.heap.size ≤ gG) (n : Nat) (hn : n ≤ 512) :
    Kd.V Kd.bool 4 wr w.heap.size (fun k_ => w.heap.size ≤ k_) (.slice (some ⟨gG, 0, none⟩) n 512) (gone.take n) := by
  have hl : (gone.take n).length = n := by rw [List.length_take, hlen]; omega
  refine ⟨some ⟨gG, 0, none⟩, 512, by rw [hl], by omega, fun W' hW => ?_⟩
  have hb := (hW gG hle (blk_lt hp)).trans hp
  refine Kd.C_of_reads (enc := Value.bool) (d := false) (h1 := fun _ => rfl) ⟨rfl, by omega, fun _ => ⟨_, rfl, fun j hj => ?_⟩⟩
  rw [hl] at hj
  rw [add_plain, blk_cell hb j, List.getElem?_toArray, List.getElem?_map, List.getElem?_eq_getElem (by rw [hlen]; omega), List.getD_eq_getElem?_getD, List.getElem?_take, if_pos hj, List.getElem?_eq_getElem (by rw [hlen]; omega)]
  rfl
theorem fillG_zero (g : List Bool) (a : Nat) (b : Bool) : fillG g a 0 b = g := by unfold fillG; simp
theorem fillG_step (g : List Bool) (a n : Nat) (b : Bool) (h : a + n < g.length) : (fillG g a n b).set (a + n) b = fillG g a (n + 1) b := by
  unfold fillG
  have e1 : g.drop (a + n) = g[a + n] :: g.drop (a + (n + 1)) := by rw [List.drop_eq_getElem_cons h]; rfl
  have l1 : (g.take a ++ List.replicate n b).length = a + n := by simp; omega
  rw [e1, List.set_append_right _ _ (by omega), l1, Nat.sub_self, List.set_cons_zero, List.replicate_succ', List.append_assoc, List.append_assoc, List.append_assoc]
  rfl
set_option maxHeartbeats 8000000 in
set_option maxRecDepth 100000 in
theorem gaps_Of_loop (k : Nat) (A0 : Option Addr) (c0 : Nat) (l0 : List S33) (n : Nat) (put : List ByteArray) (gone : List Bool) (w : World) (hG : Glob w)
    (hr0 : Kd.C k33 w A0 l0.length l0) (hc0 : l0.length ≤ c0) (h1 : op_May.f k l0 = some 0) (h2 : op_In.f k l0 = some (n : Int)) (hn : n ≤ 512)
    (h : gapsL l0 0 (List.replicate 513 ⟨#[]⟩) (List.replicate 512 false) = some (put, gone)) :
    Calls Tryd.prog 17 #[.slice A0 l0.length c0] w fun e w' => ∃ v0_ v1_ : Value, e = .returned (.tuple #[.agg #[v0_, v1_], .int .i64 0]) ∧ Kd.V Kd.string 9 w' w.heap.size (fun k_ => w.heap.size ≤ k_) v0_ (put.take (n + 1)) ∧ Kd.V Kd.bool 4 w' w.heap.size (fun k_ => w.heap.size ≤ k_) v1_ (gone.take n) ∧ Below w.heap.size w w' := by
  have HG := Aside0.mk hG
  have HR0 := Aside0.mk hr0
  have HC0 := Aside0.mk hc0
  have H1 := Aside0.mk h1
  have H2 := Aside0.mk h2
  have H := Aside0.mk h
  have HN := Aside0.mk hn
  have HM : Aside0 (l0.length ≤ 9223372036854775807) := ⟨hr0.2.1⟩
  have d1 : decide ((512 : Int) < (n : Int)) = false := decide_eq_false (by omega)
  clear hG hr0 hc0 h1 h2 h hn
  go_enter Tryd.func17, Tryd.ntmps17
  go_wp2_with (first | (go_at_call 42; (with_reducible refine (op_May.calls k _ _ l0 0 _ (HG.out.below (below_alloc (Below.refl _ _) _)) (Kd.C_alloc HR0.out _) HC0.out H1.out).mono ?_); rintro e w1 ⟨rfl, hb⟩; have HB1 := Aside0.mk hb; clear hb) | (go_at_call 20; (with_reducible refine (op_In.calls k _ _ l0 (n : Int) _ (HG.out.below (below_step (below_alloc (Below.refl _ _) _) HB1.out)) (Kd.C_below (Kd.C_alloc HR0.out _) HB1.out) HC0.out H2.out).mono ?_); rintro e w2 ⟨rfl, hb⟩; have HB2 := Aside0.mk hb; clear hb))
  have HI0 : Aside0 (OfSt w ((w2.alloc (.cells Tryd.zeroCells70 70)).alloc (.cells Tryd.zeroCells71 71)) w.heap.size w2.heap.size (w2.heap.size + 1) (List.replicate 513 ⟨#[]⟩) (List.replicate 512 false)) := ⟨by
    have b1 : Below w.heap.size w w2 := below_step (below_step (below_alloc (Below.refl _ _) _) HB1.out) HB2.out
    have z1 : w.heap.size < w1.heap.size := by have := HB1.out.size; rw [size_alloc] at this; omega
    have z2 : w1.heap.size ≤ w2.heap.size := HB2.out.size
    refine ⟨below_alloc (below_alloc b1 _) _, blk_alloc (blk_alloc (blk_below (blk_below (blk_new w _) HB1.out) HB2.out) _) _, ?_, ?_, by simp, by simp, Nat.le_refl _, by omega, by omega⟩
    · have := blk_alloc (blk_new w2 (.cells Tryd.zeroCells70 70)) (.cells Tryd.zeroCells71 71)
      rw [this]
      exact congrArg (fun c => some (Obj.cells c 70 (0, 0))) (by kernel_rfl)
    · have := blk_new (w2.alloc (.cells Tryd.zeroCells70 70)) (.cells Tryd.zeroCells71 71)
      rw [size_alloc] at this
      rw [this]
      exact congrArg (fun c => some (Obj.cells c 71 (0, 0))) (by kernel_rfl)⟩
  generalize w2.heap.size + 1 = gG at HI0 ⊢
  generalize w2.heap.size = gP at HI0 ⊢
  go_loopg [8, 24] l0.length (fun kq v8 v24 w' => ∃ (i a : Nat) (p : List ByteArray) (g : List Bool), v8 = .int .i64 a ∧ v24 = .int .i64 i ∧ Aside0 (i ≤ l0.length) ∧ Aside0 (kq = l0.length - i) ∧ Aside0 (a ≤ 512) ∧ Aside0 (OfSt w w' w.heap.size gP gG p g) ∧ Aside0 (gapsL (l0.drop i) a p g = some (put, gone)))
  case atStart => exact ⟨0, 0, _, _, rfl, rfl, ⟨Nat.zero_le _⟩, ⟨rfl⟩, ⟨Nat.zero_le _⟩, HI0, H⟩
  case round =>
    clear HI0 H
    obtain ⟨i, a, p, g, rfl, rfl, HI, HK, HA, ST, H⟩ := hrel
    by_cases hi : i < l0.length
    · have h := H.out
      rw [List.drop_eq_getElem_cons hi, gapsL] at h
      split at h
      · next hc =>
        obtain ⟨hc1, hc2⟩ := hc
        obtain ⟨s, hs⟩ : ∃ s, l0[i] = s := ⟨_, rfl⟩
        rw [hs] at h hc1 hc2
        obtain ⟨ad, e, hx0, hx1, hx2⟩ := at_T33 (Kd.C_below HR0.out ST.out.b) (i : Int) (by omega) (by omega)
        cases e
        have hrd : rd_T33 l0 (i : Int) = s := by
          unfold rd_T33
          rw [Int.toNat_natCast, List.getD_eq_getElem?_getD, List.getElem?_eq_getElem hi]
          exact hs
        rw [hrd, Int.toNat_natCast] at hx0 hx1 hx2
        have HNX := Aside0.mk h
        have STA := Aside0.mk (ST.out.below (below_alloc (Below.refl _ _) (.cells #[.int .i64 s.f0, .int .i64 s.f1, .string s.f2] 33)))
        have cp := STA.out.cellP a (by have := HA.out; omega)
        have fp := blk_frozen STA.out.p a
        obtain ⟨pa, hpa⟩ : ∃ pa, p.getD a ⟨#[]⟩ = pa := ⟨_, rfl⟩
        rw [hpa] at cp hc2
        have HPA := Aside0.mk hpa
        clear hpa
        have cs2 : (wr.alloc (.cells #[.int .i64 s.f0, .int .i64 s.f1, .string s.f2] 33)).cell? ⟨wr.heap.size, 2, none⟩ = some (.string s.f2) := (blk_cell (blk_new wr _) 2).trans rfl
        have i1 : decide (i < l0.length) = true := decide_eq_true hi
        have a1 : (a : Int) < 513 := by have := HA.out; omega
        have a2 : a < 513 := by have := HA.out; omega
        have HMI : Aside0 ((i : Int) < 9223372036854775807) := ⟨by have := HM.out; omega⟩
        clear h hs hrd
        go_wp2
        go_region
        obtain ⟨bx, hbx⟩ : ∃ bx, wr.heap.size = bx := ⟨_, rfl⟩
        have BX0 : (wr.alloc (.cells #[.int .i64 s.f0, .int .i64 s.f1, .string s.f2] 33)).heap[bx]? = some (.cells #[.int .i64 s.f0, .int .i64 s.f1, .string s.f2] 33 (0, 0)) := hbx ▸ blk_new wr _
        have hne : bx ≠ gP := by have := blk_lt ST.out.p; omega
        have hneG : Aside0 (bx ≠ gG) := ⟨by have := blk_lt ST.out.g; omega⟩
        have STB : Aside0 (OfSt w (((wr.alloc (.cells #[.int .i64 s.f0, .int .i64 s.f1, .string s.f2] 33)).setCell ⟨gP, a, none⟩ (.string (pa ++ s.f2))).drew) w.heap.size gP gG (p.set a (pa ++ s.f2)) g) := ⟨(STA.out.setP a (pa ++ s.f2)).below (below_drew1 (Below.refl _ _))⟩
        have BX : Aside0 ((((wr.alloc (.cells #[.int .i64 s.f0, .int .i64 s.f1, .string s.f2] 33)).setCell ⟨gP, a, none⟩ (.string (pa ++ s.f2))).drew).heap[bx]? = some (.cells #[.int .i64 s.f0, .int .i64 s.f1, .string s.f2] 33 (0, 0))) := ⟨blk_drew ((Below.heap_setCell _ ⟨gP, a, none⟩ _ bx hne).trans BX0)⟩
        rw [hbx]
        clear hbx BX0 cp fp cs2 STA
        generalize (((wr.alloc (.cells #[.int .i64 s.f0, .int .i64 s.f1, .string s.f2] 33)).setCell ⟨gP, a, none⟩ (.string (pa ++ s.f2))).drew) = wb at STB BX ⊢
        have cn : wb.cell? ⟨bx, 1, none⟩ = some (.int .i64 s.f1) := (blk_cell BX.out 1).trans rfl
        have HA2 : Aside0 (a + s.f1.toNat ≤ 512) := ⟨hc1⟩
        have HLG : Aside0 (g.length = 512) := ⟨ST.out.lg⟩
        clear hx0 hx1 hx2 hc1 hc2 a1 a2 hne
        go_wp2
        go_loopg [8, 37] s.f1.toNat (fun kq v8 v37 w' => ∃ (j c : Nat), v8 = .int .i64 c ∧ v37 = .int .i64 j ∧ Aside0 (c = a + j) ∧ Aside0 (j ≤ s.f1.toNat) ∧ Aside0 (kq = s.f1.toNat - j) ∧ Aside0 (OfSt w w' w.heap.size gP gG (p.set a (pa ++ s.f2)) (fillG g a j (s.f0 == 3))) ∧ Aside0 (w'.heap[bx]? = some (.cells #[.int .i64 s.f0, .int .i64 s.f1, .string s.f2] 33 (0, 0))))
        case atStart => exact ⟨0, a, rfl, rfl, ⟨rfl⟩, ⟨Nat.zero_le _⟩, ⟨rfl⟩, ⟨by rw [fillG_zero]; exact STB.out⟩, BX⟩
        case round =>
          clear STB BX cn ST
          obtain ⟨j, c, rfl, rfl, HC, HJ, HKJ, ST, BX⟩ := hrel
          by_cases hj : j < s.f1.toNat
          · have hc5 : c < 512 := by have := HC.out; have := HA2.out; omega
            have hc5i : (c : Int) < 512 := by omega
            have t1 : decide ((j : Int) < s.f1) = true := decide_eq_true (by omega)
            have cn : wr.cell? ⟨bx, 0, none⟩ = some (.int .i64 s.f0) := (blk_cell BX.out 0).trans rfl
            have cg := ST.out.cellG c hc5
            have fg := blk_frozen ST.out.g c
            have jm : (j : Int) < 9223372036854775807 := by have := HA2.out; omega
            have ST2 : Aside0 (OfSt w (wr.setCell ⟨gG, c, none⟩ (.bool (s.f0 == 3))) w.heap.size gP gG (p.set a (pa ++ s.f2)) (fillG g a (j + 1) (s.f0 == 3))) := ⟨by
              have h2 := ST.out.setG c (s.f0 == 3)
              rw [HC.out, fillG_step g a j _ (by have := HLG.out; have := HA2.out; omega), ← HC.out] at h2
              exact h2⟩
            have BX2 : Aside0 ((wr.setCell ⟨gG, c, none⟩ (.bool (s.f0 == 3))).heap[bx]? = some (.cells #[.int .i64 s.f0, .int .i64 s.f1, .string s.f2] 33 (0, 0))) := ⟨(Below.heap_setCell _ ⟨gG, c, none⟩ _ bx hneG.out).trans BX.out⟩
            generalize (fillG g a j (s.f0 == 3)).getD c false = og at cg
            go_wp2
            go_roundg (s.f1.toNat - (j + 1))
            case measure => have := HKJ.out; omega
            case rel => exact ⟨j + 1, c + 1, by go_num, by go_num, ⟨by have := HC.out; omega⟩, ⟨by omega⟩, ⟨rfl⟩, ST2, BX2⟩
          · have t1 : decide ((j : Int) < s.f1) = false := decide_eq_false (by omega)
            have hje : j = s.f1.toNat := by have := HJ.out; omega
            have HC' : Aside0 (c = a + s.f1.toNat) := ⟨by rw [← hje]; exact HC.out⟩
            have STF : Aside0 (OfSt w wr w.heap.size gP gG (p.set a (pa ++ s.f2)) (fillG g a s.f1.toNat (s.f0 == 3))) := ⟨by rw [← hje]; exact ST.out⟩
            have im := HMI.out
            clear hje hj
            go_wp2
            go_roundg (l0.length - (i + 1))
            case measure => have := HK.out; omega
            case rel => exact ⟨i + 1, c, _, _, rfl, by go_num, ⟨by omega⟩, ⟨rfl⟩, ⟨by have := HC'.out; have := HA2.out; omega⟩, STF, ⟨by have := HNX.out; rw [HPA.out] at this; rw [HC'.out]; exact this⟩⟩
      · cases h
    · have hl : l0.length ≤ i := by omega
      have h := H.out
      rw [List.drop_eq_nil_of_le hl] at h
      obtain ⟨rfl, rfl⟩ : p = put ∧ g = gone := by simpa [gapsL] using h
      have i1 : decide (i < l0.length) = false := decide_eq_false hi
      have n1 : n ≤ 512 := HN.out
      have n2 : (n : Int) ≤ 512 := by omega
      have n3 : (n : Int) + 1 ≤ 513 := by omega
      have cr0 : wr.cell? ⟨w.heap.size, 0, none⟩ = some (.slice none 0 0) := (blk_cell ST.out.r 0).trans rfl
      have cr1 : wr.cell? ⟨w.heap.size, 1, none⟩ = some (.slice none 0 0) := (blk_cell ST.out.r 1).trans rfl
      have fr0 := blk_frozen ST.out.r 0
      have fr1 := blk_frozen ST.out.r 1
      have sP : ∀ W, (Instr.sliceAt 70 (.pointer (some ⟨gP, 0, none⟩)) none (some (.int .i64 ((n : Int) + 1))) none).run Tryd.prog W = .ok (.slice (some ⟨gP, 0, none⟩) (n + 1) 513) W := fun W => by
        have := slice_arrP W gP (n + 1) (by omega)
        rwa [show ((n + 1 : Nat) : Int) = (n : Int) + 1 by omega] at this
      have sG := fun W => slice_arrG W gG n (by omega)
      clear h hl hi
      go_wp2
      go_region
      go_wp2
      refine bodyPost_ret (results_ct rfl _ _ w.heap.size 28 #[.slice (some ⟨gP, 0, none⟩) (n + 1) 513, .slice (some ⟨gG, 0, none⟩) n 512] (0, 0) _ rfl (by refine blk_drew ?_; refine blk_put (cs := #[.slice (some ⟨gP, 0, none⟩) (n + 1) 513, .slice none 0 0]) ?_ 1 _ rfl; exact blk_put (cs := #[.slice none 0 0, .slice none 0 0]) ST.out.r 0 _ rfl) Tryd.underlying28 rfl (by kernel_rfl)) rfl ?_
      have hne1 := ST.out.rp
      have hne2 := ST.out.rg
      refine ⟨_, _, rfl, of_vP (blk_drew ((Below.heap_setCell _ ⟨w.heap.size, 1, none⟩ _ gP hne1.symm).trans ((Below.heap_setCell _ ⟨w.heap.size, 0, none⟩ _ gP hne1.symm).trans ST.out.p))) ST.out.lp ST.out.hP (n + 1) (by omega),
        of_vG (blk_drew ((Below.heap_setCell _ ⟨w.heap.size, 1, none⟩ _ gG hne2.symm).trans ((Below.heap_setCell _ ⟨w.heap.size, 0, none⟩ _ gG hne2.symm).trans ST.out.g))) ST.out.lg ST.out.hG n (by omega), ?_⟩
      exact below_drew1 (below_set (below_set ST.out.b (Nat.le_refl _)) (Nat.le_refl _))
set_option maxHeartbeats 8000000 in
set_option maxRecDepth 100000 in
theorem gaps_Of.calls (k : Nat) (A0 : Option Addr) (c0 : Nat) (l0 : List S33) (r1 : List ByteArray) (r2 : List Bool) (r3 : Int) (w : World) (hG : Glob w) (hr0 : Kd.C k33 w A0 l0.length l0) (hc0 : l0.length ≤ c0) (h : gaps_Of.f k l0 = some (r1, r2, r3)) :
    Calls Tryd.prog 17 #[.slice A0 l0.length c0] w fun e w' => ∃ v0_ v1_ : Value, e = .returned (.tuple #[.agg #[v0_, v1_], .int .i64 r3]) ∧ Kd.V Kd.string 9 w' w.heap.size (fun k_ => w.heap.size ≤ k_) v0_ r1 ∧ Kd.V Kd.bool 4 w' w.heap.size (fun k_ => w.heap.size ≤ k_) v1_ r2 ∧ Below w.heap.size w w' := by
  unfold gaps_Of.f at h
  obtain ⟨e, h1, h⟩ := Option.bind_eq_some_iff.1 h
  split at h
  · next he =>
    subst he
    obtain ⟨n, h2, h⟩ := Option.bind_eq_some_iff.1 h
    split at h
    · next hn =>
      obtain ⟨rfl, rfl, rfl⟩ : [] = r1 ∧ [] = r2 ∧ 4 = r3 := by simpa using h
      have HG := Aside0.mk hG
      have HR0 := Aside0.mk hr0
      have HC0 := Aside0.mk hc0
      have H1 := Aside0.mk h1
      have H2 := Aside0.mk h2
      have d1 : decide ((512 : Int) < n) = true := decide_eq_true hn
      clear hG hr0 hc0 h1 h2 h hn
      go_enter Tryd.func17, Tryd.ntmps17
      go_wp2_with (first | (go_at_call 42; (with_reducible refine (op_May.calls k _ _ l0 0 _ (HG.out.below (below_alloc (Below.refl _ _) _)) (Kd.C_alloc HR0.out _) HC0.out H1.out).mono ?_); rintro e w1 ⟨rfl, hb⟩; have HB1 := Aside0.mk hb; clear hb) | (go_at_call 20; (with_reducible refine (op_In.calls k _ _ l0 n _ (HG.out.below (below_step (below_alloc (Below.refl _ _) _) HB1.out)) (Kd.C_below (Kd.C_alloc HR0.out _) HB1.out) HC0.out H2.out).mono ?_); rintro e w2 ⟨rfl, hb⟩; have HB2 := Aside0.mk hb; have bk := blk_below (blk_below (blk_new w (.cells #[.slice none 0 0, .slice none 0 0] 28)) HB1.out) hb; have cr0 : w2.cell? ⟨w.heap.size, 0, none⟩ = some (.slice none 0 0) := (blk_cell bk 0).trans rfl; have cr1 : w2.cell? ⟨w.heap.size, 1, none⟩ = some (.slice none 0 0) := (blk_cell bk 1).trans rfl; have fr0 := blk_frozen bk 0; have fr1 := blk_frozen bk 1; have BK := Aside0.mk bk; clear hb bk))
      refine bodyPost_ret (results_ct rfl _ _ w.heap.size 28 #[.slice none 0 0, .slice none 0 0] (0, 0) _ rfl (by refine blk_put (cs := #[.slice none 0 0, .slice none 0 0]) ?_ 1 _ rfl; exact blk_put (cs := #[.slice none 0 0, .slice none 0 0]) BK.out 0 _ rfl) Tryd.underlying28 rfl (by kernel_rfl)) rfl ?_
      exact ⟨_, _, rfl, Kd.V_nil _ _ _ _ _, Kd.V_nil _ _ _ _ _, below_set (below_set (below_step (below_step (below_alloc (Below.refl _ _) _) HB1.out) HB2.out) (Nat.le_refl _)) (Nat.le_refl _)⟩
    · next hn =>
      split at h
      · next h0 =>
        obtain ⟨⟨p, g⟩, h3, h4⟩ := Option.bind_eq_some_iff.1 h
        obtain ⟨m, rfl⟩ := Int.eq_ofNat_of_zero_le h0
        obtain ⟨rfl, rfl, rfl⟩ : p.take (m + 1) = r1 ∧ g.take m = r2 ∧ 0 = r3 := by simpa using h4
        exact gaps_Of_loop k A0 c0 l0 m p g w hG hr0 hc0 h1 h2 (by omega) h3
      · cases h
  · next he =>
    obtain ⟨rfl, rfl, rfl⟩ : [] = r1 ∧ [] = r2 ∧ e = r3 := by simpa using h
    have HG := Aside0.mk hG
    have HR0 := Aside0.mk hr0
    have HC0 := Aside0.mk hc0
    have H1 := Aside0.mk h1
    have d1 : (e != 0) = true := by simp [he]
    clear hG hr0 hc0 h1 h he
    go_enter Tryd.func17, Tryd.ntmps17
    go_wp2_with (go_at_call 42; (with_reducible refine (op_May.calls k _ _ l0 e _ (HG.out.below (below_alloc (Below.refl _ _) _)) (Kd.C_alloc HR0.out _) HC0.out H1.out).mono ?_); rintro e2 w1 ⟨rfl, hb⟩; have bk := blk_below (blk_new w (.cells #[.slice none 0 0, .slice none 0 0] 28)) hb; have cr0 : w1.cell? ⟨w.heap.size, 0, none⟩ = some (.slice none 0 0) := (blk_cell bk 0).trans rfl; have cr1 : w1.cell? ⟨w.heap.size, 1, none⟩ = some (.slice none 0 0) := (blk_cell bk 1).trans rfl; have fr0 := blk_frozen bk 0; have fr1 := blk_frozen bk 1; have BK := Aside0.mk bk; have HB1 := Aside0.mk hb; clear hb bk)
    refine bodyPost_ret (results_ct rfl _ _ w.heap.size 28 #[.slice none 0 0, .slice none 0 0] (0, 0) _ rfl (by refine blk_put (cs := #[.slice none 0 0, .slice none 0 0]) ?_ 1 _ rfl; exact blk_put (cs := #[.slice none 0 0, .slice none 0 0]) BK.out 0 _ rfl) Tryd.underlying28 rfl (by kernel_rfl)) rfl ?_
    exact ⟨_, _, rfl, Kd.V_nil _ _ _ _ _, Kd.V_nil _ _ _ _ _, below_set (below_set (below_step (below_alloc (Below.refl _ _) _) HB1.out) (Nat.le_refl _)) (Nat.le_refl _)⟩
end Go.Proofs.YtkgicpnnlkcaeaaDoor.F
end
section
namespace Go.Proofs.YtkgicpnnlkcaeaaDoor.F
open Go.RowKit Go.Proofs.YtkgicpnnlkcaeaaDoorW.PrintWords Go.Proofs.YtkgicpnnlkcaeaaDoorW.PrintLast Go.Proofs.YtkgicpnnlkcaeaaDoorW.PrintMore
attribute [local go_sem] max2_int min2_int max_two min_two max_three min_three max_four min_four cell_setCell_isSome
set_option linter.unusedVariables false
set_option linter.unusedSimpArgs false
def epitomelaw06_shown.f (k : Nat)  : Option (Bool) := (gaps_Of.f k (([(⟨1, 1, (⟨#[]⟩ : ByteArray)⟩ : S33), (⟨3, 1, (⟨#[]⟩ : ByteArray)⟩ : S33), (⟨2, 0, (⟨#[120]⟩ : ByteArray)⟩ : S33)] : List (S33)))).bind fun bt104 => (if bt104.2.2 = 0 then ((epitomeref06_Same.f k bt104.1 bt104.2.1 (([(⟨#[]⟩ : ByteArray), (⟨#[]⟩ : ByteArray), (⟨#[120]⟩ : ByteArray)] : List ByteArray)) (([false, true] : List Bool))).bind fun t118 => (some t118)) else (some false))
set_option maxHeartbeats 8000000 in
set_option maxRecDepth 100000 in
theorem epitomelaw06_shown.calls (k : Nat)  (r : Bool) (w : World) (hG : Glob w) (h : epitomelaw06_shown.f k  = some r) :
    Calls Tryd.prog 15 #[] w fun e w' => e = .returned (.bool r) ∧ Below w.heap.size w w' := by
  have hu33 := Tryd.underlying33
  have hu28 := Tryd.underlying28
  have HG := Aside0.mk hG
  clear hG
  have HB := Aside0.mk (Below.refl w.heap.size w)
  have H : ((gaps_Of.f k (([(⟨1, 1, (⟨#[]⟩ : ByteArray)⟩ : S33), (⟨3, 1, (⟨#[]⟩ : ByteArray)⟩ : S33), (⟨2, 0, (⟨#[120]⟩ : ByteArray)⟩ : S33)] : List (S33)))).bind fun bt104 => (if bt104.2.2 = 0 then ((epitomeref06_Same.f k bt104.1 bt104.2.1 (([(⟨#[]⟩ : ByteArray), (⟨#[]⟩ : ByteArray), (⟨#[120]⟩ : ByteArray)] : List ByteArray)) (([false, true] : List Bool))).bind fun t118 => (some t118)) else (some false))) = some r := h
  clear h
  obtain ⟨y101, hy101⟩ : ∃ y_ : List (S33), y_ = (([(⟨1, 1, (⟨#[]⟩ : ByteArray)⟩ : S33), (⟨3, 1, (⟨#[]⟩ : ByteArray)⟩ : S33), (⟨2, 0, (⟨#[120]⟩ : ByteArray)⟩ : S33)] : List (S33))) := ⟨_, rfl⟩
  replace H : ((gaps_Of.f k y101).bind fun bt104 => (if bt104.2.2 = 0 then ((epitomeref06_Same.f k bt104.1 bt104.2.1 (([(⟨#[]⟩ : ByteArray), (⟨#[]⟩ : ByteArray), (⟨#[120]⟩ : ByteArray)] : List ByteArray)) (([false, true] : List Bool))).bind fun t118 => (some t118)) else (some false))) = some r := by first | (rw [hy101]; with_reducible exact H) | (have H2_ := (Option.bind_some _ _).symm.trans H; rw [hy101]; with_reducible exact H2_) | (have H2_ := (Option.bind_some _ _).symm.trans H; with_reducible exact H2_) | with_reducible exact H | (rw [hy101]; exact H) | exact H
  have Ny101 := Aside0.mk hy101
  clear hy101
  replace H := Option.bind_eq_some_iff.mp H
  obtain ⟨⟨t104, t107, t110⟩, A10, H⟩ := H
  replace H : (if t110 = 0 then ((epitomeref06_Same.f k t104 t107 (([(⟨#[]⟩ : ByteArray), (⟨#[]⟩ : ByteArray), (⟨#[120]⟩ : ByteArray)] : List ByteArray)) (([false, true] : List Bool))).bind fun t118 => (some t118)) else (some false)) = some r := H
  have A1 := Aside0.mk A10
  clear A10
  by_cases c2 : t110 = 0
  · rw [if_pos c2] at H
    have c2b0 : (t110 == 0) = true := beq_iff_eq.mpr c2
    have c2b1 : (t110 != 0) = false := bne_eq_false_iff_eq.mpr c2
    clear c2
    obtain ⟨y112, hy112⟩ : ∃ y_ : List ByteArray, y_ = (([(⟨#[]⟩ : ByteArray), (⟨#[]⟩ : ByteArray), (⟨#[120]⟩ : ByteArray)] : List ByteArray)) := ⟨_, rfl⟩
    replace H : ((epitomeref06_Same.f k t104 t107 y112 (([false, true] : List Bool))).bind fun t118 => (some t118)) = some r := by first | (rw [hy112]; with_reducible exact H) | (have H2_ := (Option.bind_some _ _).symm.trans H; rw [hy112]; with_reducible exact H2_) | (have H2_ := (Option.bind_some _ _).symm.trans H; with_reducible exact H2_) | with_reducible exact H | (rw [hy112]; exact H) | exact H
    have Ny112 := Aside0.mk hy112
    clear hy112
    obtain ⟨y115, hy115⟩ : ∃ y_ : List Bool, y_ = (([false, true] : List Bool)) := ⟨_, rfl⟩
    replace H : ((epitomeref06_Same.f k t104 t107 y112 y115).bind fun t118 => (some t118)) = some r := by first | (rw [hy115]; with_reducible exact H) | (have H2_ := (Option.bind_some _ _).symm.trans H; rw [hy115]; with_reducible exact H2_) | (have H2_ := (Option.bind_some _ _).symm.trans H; with_reducible exact H2_) | with_reducible exact H | (rw [hy115]; exact H) | exact H
    have Ny115 := Aside0.mk hy115
    clear hy115
    replace H := Option.bind_eq_some_iff.mp H
    obtain ⟨t118, A30, H⟩ := H
    replace H : (some t118) = some r := H
    have A3 := Aside0.mk A30
    clear A30
    obtain rfl := Option.some.inj H
    go_enter Tryd.func15, Tryd.ntmps15
    go_wp2_with (first | ((with_reducible refine gate_dst (N := 7) rfl ?_); (try (refine gate_guard (by rfl) ?_; dsimp only)); refine Kd.R_lit k33 _ 33 ?hg (N := 7) ?hd (xs := ([(⟨1, 1, (⟨#[]⟩ : ByteArray)⟩ : S33), (⟨3, 1, (⟨#[]⟩ : ByteArray)⟩ : S33), (⟨2, 0, (⟨#[120]⟩ : ByteArray)⟩ : S33)] : List (S33))) (inner := [.int .i64 1, .int .i64 1, .string (⟨#[]⟩ : ByteArray), .int .i64 3, .int .i64 1, .string (⟨#[]⟩ : ByteArray), .int .i64 2, .int .i64 0, .string (⟨#[120]⟩ : ByteArray)]) (ok := fun _ => True) (okp := fun _ => True) ?hr ?hp (fun _ hk => hk) trivial (Below.refl _ _) (Nat.le_refl _) (by simp) ?_; (case hd => rfl); (case hg => rfl); (case hr => first | (go_simp; done) | (go_simp; rfl)); (case hp => exact (Reps.c3 (show Kd.M k33 _ _ _ (⟨1, 1, (⟨#[]⟩ : ByteArray)⟩ : S33) [.int .i64 1, .int .i64 1, .string (⟨#[]⟩ : ByteArray)] from (k33_mkM _ _ _ (⟨1, 1, (⟨#[]⟩ : ByteArray)⟩ : S33) )) (Reps.c3 (show Kd.M k33 _ _ _ (⟨3, 1, (⟨#[]⟩ : ByteArray)⟩ : S33) [.int .i64 3, .int .i64 1, .string (⟨#[]⟩ : ByteArray)] from (k33_mkM _ _ _ (⟨3, 1, (⟨#[]⟩ : ByteArray)⟩ : S33) )) (Reps.c3 (show Kd.M k33 _ _ _ (⟨2, 0, (⟨#[120]⟩ : ByteArray)⟩ : S33) [.int .i64 2, .int .i64 0, .string (⟨#[120]⟩ : ByteArray)] from (k33_mkM _ _ _ (⟨2, 0, (⟨#[120]⟩ : ByteArray)⟩ : S33) )) (Reps.none _ _))))); intro v102 w4 ho5 hb hg_ hnew_; clear hg_ hnew_; (first | rw [← Ny101.out] at ho5 | (simp only [Int.reduceToNat] at ho5; rw [← Ny101.out] at ho5)); have n0_ := Aside0.mk (Kd.R_lower ho5 (below_size (by repeat (first | (with_reducible first | exact HB.out | apply below_alloc | apply pw_below_drewN | apply below_drew1) | exact HB.out)))); have n1_ := Aside0.mk (below_step (by repeat (first | (with_reducible first | exact HB.out | apply below_alloc | apply pw_below_drewN | apply below_drew1) | exact HB.out)) hb); clear HB; have HO103 := n0_; have HB := n1_; clear n0_ n1_; clear hb ho5; obtain ⟨Ao6, co6, eo6⟩ := Kd.R_slice HO103.out; subst eo6) | ((with_reducible refine gate_callee (f := 17) rfl ?_); refine goesL_ (some 8) rfl rfl Tryd.func17 (by kernel_rfl) rfl #[.slice Ao6 y101.length co6] rfl (by (try simp only [List.map_toArray, List.map_cons, List.map_nil]); first | done | rfl | (simp only [List.length_drop, List.length_take]; rfl)) ?_; (with_reducible refine (gaps_Of.calls k _ _ y101 t104 t107 t110 _ ?side1 ?side2 ?side3 A1.out).mono ?_); (case side1 => first | (with_reducible exact HG.out) | exact Glob.below HG.out (by repeat (first | (with_reducible first | exact HB.out | apply below_alloc | apply pw_below_drewN | apply below_drew1) | exact HB.out)) | exact Glob.drawn HG.out (by repeat (first | exact Drawn0.refl _ | apply Drawn0.step))); (case side2 => repeat (first | exact (Kd.R_reads' HO103.out).2.2 | (with_reducible refine Kd.C_alloc ?_ _) | (with_reducible refine Kd.C_drewN ?_ _) | (with_reducible refine Kd.C_drew ?_))); (case side3 => exact (Kd.R_reads' HO103.out).2.1); rintro e w7 ⟨v105, v108, rfl, ho0, ho1, hb⟩; refine ⟨_, rfl, ?_⟩; have n0_ := Aside0.mk (Kd.R_below (by (with_reducible repeat (first | apply Kd.R_alloc | apply Kd.R_drewN | apply Kd.R_drew)); exact HO103.out) hb); have n1_ := Aside0.mk (Kd.V_lower (Kd.V_mono (ok' := fun k_ => some k_ ≠ (.slice Ao6 y101.length co6 : Value).ownBlock) ho0 (fun k_ hk_ => (Kd.fresh' (Kd.R_lt (by (with_reducible repeat (first | apply Kd.R_alloc | apply Kd.R_drewN | apply Kd.R_drew)); exact HO103.out)) k_ hk_))) (below_size (by repeat (first | (with_reducible first | exact HB.out | apply below_alloc | apply pw_below_drewN | apply below_drew1) | exact HB.out)))); have n2_ := Aside0.mk (Kd.V_lower (Kd.V_mono (ok' := fun k_ => some k_ ≠ (.slice Ao6 y101.length co6 : Value).ownBlock) ho1 (fun k_ hk_ => (Kd.fresh' (Kd.R_lt (by (with_reducible repeat (first | apply Kd.R_alloc | apply Kd.R_drewN | apply Kd.R_drew)); exact HO103.out)) k_ hk_))) (below_size (by repeat (first | (with_reducible first | exact HB.out | apply below_alloc | apply pw_below_drewN | apply below_drew1) | exact HB.out)))); have n3_ := Aside0.mk (below_step (by repeat (first | (with_reducible first | exact HB.out | apply below_alloc | apply pw_below_drewN | apply below_drew1) | exact HB.out)) hb); clear HO103; clear HB; have HO103 := n0_; have HO106 := n1_; have HO109 := n2_; have HB := n3_; clear n0_ n1_ n2_ n3_; (try clear hb); (try clear hb2); (try clear hk); (try clear hi); (try clear ho0); (try clear ho1)) | ((with_reducible refine gate_dst (N := 1) rfl ?_); (try (refine gate_guard (by rfl) ?_; dsimp only)); refine box_event ?hg (N := 1) ?hd (cs := #[.slice none 0 0, .slice none 0 0]) (t := 28) ?hr ?_; (case hd => rfl); (case hg => rfl); (case hr => first | (go_simp; done) | (go_simp; rfl)); intro gb111 hg w8 hbox hb; have n0_ := Aside0.mk (Kd.R_below (by (with_reducible repeat (first | apply Kd.R_alloc | apply Kd.R_drewN | apply Kd.R_drew)); exact HO103.out) hb); have n1_ := Aside0.mk (Kd.V_below (Kd.V_elderB (by (with_reducible repeat (first | apply Kd.V_alloc | apply Kd.V_drewN | apply Kd.V_drew)); exact HO106.out) gb111 (Nat.le_of_eq hg.symm)) hb); have n2_ := Aside0.mk (Kd.V_below (Kd.V_elderB (by (with_reducible repeat (first | apply Kd.V_alloc | apply Kd.V_drewN | apply Kd.V_drew)); exact HO109.out) gb111 (Nat.le_of_eq hg.symm)) hb); have n3_ := Aside0.mk (below_step (by repeat (first | (with_reducible first | exact HB.out | apply below_alloc | apply pw_below_drewN | apply below_drew1) | exact HB.out)) hb); have n4_ := Aside0.mk (hbox); have n5_ := Aside0.mk ((by rw [hg]; exact (below_size (by repeat (first | (with_reducible first | exact HB.out | apply below_alloc | apply pw_below_drewN | apply below_drew1) | exact HB.out))) : w.heap.size ≤ gb111)); have n6_ := Aside0.mk ((by rw [hg]; exact (below_size (by repeat (first | (with_reducible first | exact HB.out | apply below_alloc | apply pw_below_drewN | apply below_drew1) | exact HB.out))) : w.heap.size ≤ gb111)); clear HO103; clear HO106; clear HO109; clear HB; have HO103 := n0_; have HO106 := n1_; have HO109 := n2_; have HB := n3_; have BK111 := n4_; have GW111 := n5_; have GE111 := n6_; clear n0_ n1_ n2_ n3_ n4_ n5_ n6_; clear hb hbox hg; obtain ⟨Ao9, co9, eo9⟩ := Kd.V_slice HO106.out; subst eo9; have hcz10_0 : w8.cell? ⟨gb111, 0, none⟩ = some (.slice none 0 0) := (blk_cell BK111.out 0).trans rfl; have hcz10_1 : w8.cell? ⟨gb111, 1, none⟩ = some (.slice none 0 0) := (blk_cell BK111.out 1).trans rfl; have hfz10_0 := blk_frozen BK111.out 0; have hfz10_1 := blk_frozen BK111.out 1; obtain ⟨Ao11, co11, eo11⟩ := Kd.V_slice HO109.out; subst eo11) | ((with_reducible refine gate_dst (N := 15) rfl ?_); (try (refine gate_guard (by rfl) ?_; dsimp only)); refine Kd.R_lit Kd.string _ 9 ?hg (N := 15) ?hd (xs := ([(⟨#[]⟩ : ByteArray), (⟨#[]⟩ : ByteArray), (⟨#[120]⟩ : ByteArray)] : List ByteArray)) (inner := [.string (⟨#[]⟩ : ByteArray), .string (⟨#[]⟩ : ByteArray), .string (⟨#[120]⟩ : ByteArray)]) (ok := fun _ => True) (okp := fun _ => True) ?hr ?hp (fun _ hk => hk) trivial (Below.refl _ _) (Nat.le_refl _) (by simp) ?_; (case hd => rfl); (case hg => rfl); (case hr => first | (go_simp; done) | (go_simp; rfl)); (case hp => exact (Reps.one (show Kd.M Kd.string _ _ _ (⟨#[]⟩ : ByteArray) [.string (⟨#[]⟩ : ByteArray)] from rfl) (Reps.one (show Kd.M Kd.string _ _ _ (⟨#[]⟩ : ByteArray) [.string (⟨#[]⟩ : ByteArray)] from rfl) (Reps.one (show Kd.M Kd.string _ _ _ (⟨#[120]⟩ : ByteArray) [.string (⟨#[120]⟩ : ByteArray)] from rfl) (Reps.none _ _))))); intro v113 w12 ho13 hb hg_ hnew_; clear hg_ hnew_; (first | rw [← Ny112.out] at ho13 | (simp only [Int.reduceToNat] at ho13; rw [← Ny112.out] at ho13)); have n0_ := Aside0.mk (Kd.R_below (by (with_reducible repeat (first | apply Kd.R_alloc | apply Kd.R_drewN | apply Kd.R_drew)); exact (Kd.R_mono (Kd.R_far (p := ⟨gb111, 1, none⟩) (Kd.R_far (p := ⟨gb111, 0, none⟩) (Kd.R_types HO103.out BK111.out (by decide)) (fun _ hk => hk.2) (.slice Ao9 t104.length co9)) (fun _ hk => hk.2) (.slice Ao11 t107.length co11)) (fun _ h_ => h_.1))) hb); have n1_ := Aside0.mk (Kd.V_elder' (by (with_reducible repeat (first | apply Kd.V_alloc | apply Kd.V_drewN | apply Kd.V_drew)); exact (Kd.V_mono (Kd.V_far (p := ⟨gb111, 1, none⟩) (Kd.V_far (p := ⟨gb111, 0, none⟩) (Kd.V_mono HO106.out (fun k_ hk => (⟨hk, hk.2⟩ : _ ∧ k_ ≠ gb111))) (fun _ hk => hk.2) (.slice Ao9 t104.length co9)) (fun _ hk => hk.2) (.slice Ao11 t107.length co11)) (fun _ h_ => h_.1))) (Kd.R_base ho13) hb); have n2_ := Aside0.mk (Kd.V_elder' (by (with_reducible repeat (first | apply Kd.V_alloc | apply Kd.V_drewN | apply Kd.V_drew)); exact (Kd.V_mono (Kd.V_far (p := ⟨gb111, 1, none⟩) (Kd.V_far (p := ⟨gb111, 0, none⟩) (Kd.V_mono HO109.out (fun k_ hk => (⟨hk, hk.2⟩ : _ ∧ k_ ≠ gb111))) (fun _ hk => hk.2) (.slice Ao9 t104.length co9)) (fun _ hk => hk.2) (.slice Ao11 t107.length co11)) (fun _ h_ => h_.1))) (Kd.R_base ho13) hb); have n3_ := Aside0.mk (Kd.R_lower ho13 (below_size (by repeat (first | (with_reducible first | exact HB.out | apply below_alloc | apply pw_below_drewN | apply below_drew1 | refine below_set ?_ GE111.out) | exact HB.out)))); have n4_ := Aside0.mk (blk_below (g := gb111) (o := .cells #[.slice Ao9 t104.length co9, .slice Ao11 t107.length co11] 28 (0, 0)) (by (with_reducible repeat (first | refine blk_drewN ?_ _ | refine blk_drew ?_ | refine blk_alloc ?_ _)); refine blk_put (cs := #[.slice Ao9 t104.length co9, .slice none 0 0]) ?_ 1 _ rfl; (with_reducible repeat (first | refine blk_drewN ?_ _ | refine blk_drew ?_ | refine blk_alloc ?_ _)); refine blk_put (cs := #[.slice none 0 0, .slice none 0 0]) ?_ 0 _ rfl; (with_reducible repeat (first | refine blk_drewN ?_ _ | refine blk_drew ?_ | refine blk_alloc ?_ _)); exact BK111.out) hb); have n5_ := Aside0.mk (below_step (by repeat (first | (with_reducible first | exact HB.out | apply below_alloc | apply pw_below_drewN | apply below_drew1 | refine below_set ?_ GE111.out) | exact HB.out)) hb); clear HO103; clear HO106; clear HO109; clear BK111; clear HB; have HO103 := n0_; have HO106 := n1_; have HO109 := n2_; have HO114 := n3_; have BK111 := n4_; have HB := n5_; clear n0_ n1_ n2_ n3_ n4_ n5_; clear hb ho13) | ((with_reducible refine gate_dst (N := 16) rfl ?_); (try (refine gate_guard (by rfl) ?_; dsimp only)); refine Kd.R_lit Kd.bool _ 4 ?hg (N := 16) ?hd (xs := ([false, true] : List Bool)) (inner := [.bool false, .bool true]) (ok := fun _ => True) (okp := fun _ => True) ?hr ?hp (fun _ hk => hk) trivial (Below.refl _ _) (Nat.le_refl _) (by simp) ?_; (case hd => rfl); (case hg => rfl); (case hr => first | (go_simp; done) | (go_simp; rfl)); (case hp => exact (Reps.one (show Kd.M Kd.bool _ _ _ false [.bool false] from rfl) (Reps.one (show Kd.M Kd.bool _ _ _ true [.bool true] from rfl) (Reps.none _ _)))); intro v116 w14 ho15 hb hg_ hnew_; clear hg_ hnew_; (first | rw [← Ny115.out] at ho15 | (simp only [Int.reduceToNat] at ho15; rw [← Ny115.out] at ho15)); have n0_ := Aside0.mk (Kd.R_below (by (with_reducible repeat (first | apply Kd.R_alloc | apply Kd.R_drewN | apply Kd.R_drew)); exact HO103.out) hb); have n1_ := Aside0.mk (Kd.V_elder' (by (with_reducible repeat (first | apply Kd.V_alloc | apply Kd.V_drewN | apply Kd.V_drew)); exact HO106.out) (Kd.R_base ho15) hb); have n2_ := Aside0.mk (Kd.V_elder' (by (with_reducible repeat (first | apply Kd.V_alloc | apply Kd.V_drewN | apply Kd.V_drew)); exact HO109.out) (Kd.R_base ho15) hb); have n3_ := Aside0.mk (Kd.R_below (by (with_reducible repeat (first | apply Kd.R_alloc | apply Kd.R_drewN | apply Kd.R_drew)); exact HO114.out) hb); have n4_ := Aside0.mk (Kd.R_lower ho15 (below_size (by repeat (first | (with_reducible first | exact HB.out | apply below_alloc | apply pw_below_drewN | apply below_drew1 | refine below_set ?_ GE111.out) | exact HB.out)))); have n5_ := Aside0.mk (blk_below (g := gb111) (o := .cells #[.slice Ao9 t104.length co9, .slice Ao11 t107.length co11] 28 (0, 0)) (by (with_reducible repeat (first | refine blk_drewN ?_ _ | refine blk_drew ?_ | refine blk_alloc ?_ _)); exact BK111.out) hb); have n6_ := Aside0.mk (below_step (by repeat (first | (with_reducible first | exact HB.out | apply below_alloc | apply pw_below_drewN | apply below_drew1 | refine below_set ?_ GE111.out) | exact HB.out)) hb); clear HO103; clear HO106; clear HO109; clear HO114; clear BK111; clear HB; have HO103 := n0_; have HO106 := n1_; have HO109 := n2_; have HO114 := n3_; have HO117 := n4_; have BK111 := n5_; have HB := n6_; clear n0_ n1_ n2_ n3_ n4_ n5_ n6_; clear hb ho15; obtain ⟨Ao16, co16, eo16⟩ := Kd.R_slice HO117.out; subst eo16; obtain ⟨Ao17, co17, eo17⟩ := Kd.R_slice HO114.out; subst eo17) | (go_at_call 19; (with_reducible refine (epitomeref06_Same.calls k _ _ t104 _ _ t107 _ _ y112 _ _ y115 t118 _ ?side1 ?side2 ?side3 ?side4 ?side5 ?side6 ?side7 ?side8 A3.out).mono ?_); (case side1 => repeat (first | exact (Kd.V_reads' HO106.out).2.2 | (with_reducible refine Kd.C_alloc ?_ _) | (with_reducible refine Kd.C_drewN ?_ _) | (with_reducible refine Kd.C_drew ?_))); (case side2 => exact (Kd.V_reads' HO106.out).2.1); (case side3 => repeat (first | exact (Kd.V_reads' HO109.out).2.2 | (with_reducible refine Kd.C_alloc ?_ _) | (with_reducible refine Kd.C_drewN ?_ _) | (with_reducible refine Kd.C_drew ?_))); (case side4 => exact (Kd.V_reads' HO109.out).2.1); (case side5 => repeat (first | exact (Kd.R_reads' HO114.out).2.2 | (with_reducible refine Kd.C_alloc ?_ _) | (with_reducible refine Kd.C_drewN ?_ _) | (with_reducible refine Kd.C_drew ?_))); (case side6 => exact (Kd.R_reads' HO114.out).2.1); (case side7 => repeat (first | exact (Kd.R_reads' HO117.out).2.2 | (with_reducible refine Kd.C_alloc ?_ _) | (with_reducible refine Kd.C_drewN ?_ _) | (with_reducible refine Kd.C_drew ?_))); (case side8 => exact (Kd.R_reads' HO117.out).2.1); rintro e w18 ⟨rfl, hb⟩; have n0_ := Aside0.mk (Kd.R_below (by (with_reducible repeat (first | apply Kd.R_alloc | apply Kd.R_drewN | apply Kd.R_drew)); exact HO103.out) hb); have n1_ := Aside0.mk (Kd.V_below (by (with_reducible repeat (first | apply Kd.V_alloc | apply Kd.V_drewN | apply Kd.V_drew)); exact HO106.out) hb); have n2_ := Aside0.mk (Kd.V_below (by (with_reducible repeat (first | apply Kd.V_alloc | apply Kd.V_drewN | apply Kd.V_drew)); exact HO109.out) hb); have n3_ := Aside0.mk (Kd.R_below (by (with_reducible repeat (first | apply Kd.R_alloc | apply Kd.R_drewN | apply Kd.R_drew)); exact HO114.out) hb); have n4_ := Aside0.mk (Kd.R_below (by (with_reducible repeat (first | apply Kd.R_alloc | apply Kd.R_drewN | apply Kd.R_drew)); exact HO117.out) hb); have n5_ := Aside0.mk (blk_below (g := gb111) (o := .cells #[.slice Ao9 t104.length co9, .slice Ao11 t107.length co11] 28 (0, 0)) (by (with_reducible repeat (first | refine blk_drewN ?_ _ | refine blk_drew ?_ | refine blk_alloc ?_ _)); exact BK111.out) hb); have n6_ := Aside0.mk (below_step (by repeat (first | (with_reducible first | exact HB.out | apply below_alloc | apply pw_below_drewN | apply below_drew1 | refine below_set ?_ GE111.out) | exact HB.out)) hb); clear HO103; clear HO106; clear HO109; clear HO114; clear HO117; clear BK111; clear HB; have HO103 := n0_; have HO106 := n1_; have HO109 := n2_; have HO114 := n3_; have HO117 := n4_; have BK111 := n5_; have HB := n6_; clear n0_ n1_ n2_ n3_ n4_ n5_ n6_; (try clear hb); (try clear hb2); (try clear hk); (try clear hi)))
    go_ret
    exact ⟨by first | rfl | (simp [errW_none, errW_some] <;> rfl) | (simp [*, errW_none, errW_some] <;> rfl), by repeat (first | (with_reducible first | exact HB.out | apply below_alloc | apply pw_below_drewN | apply below_drew1 | refine below_set ?_ GE111.out) | exact HB.out)⟩
  · rw [if_neg c2] at H
    have c2b0 : (t110 == 0) = false := beq_eq_false_iff_ne.mpr c2
    have c2b1 : (t110 != 0) = true := bne_iff_ne.mpr c2
    obtain rfl := Option.some.inj H
    go_enter Tryd.func15, Tryd.ntmps15
    go_wp2_with (first | ((with_reducible refine gate_dst (N := 7) rfl ?_); (try (refine gate_guard (by rfl) ?_; dsimp only)); refine Kd.R_lit k33 _ 33 ?hg (N := 7) ?hd (xs := ([(⟨1, 1, (⟨#[]⟩ : ByteArray)⟩ : S33), (⟨3, 1, (⟨#[]⟩ : ByteArray)⟩ : S33), (⟨2, 0, (⟨#[120]⟩ : ByteArray)⟩ : S33)] : List (S33))) (inner := [.int .i64 1, .int .i64 1, .string (⟨#[]⟩ : ByteArray), .int .i64 3, .int .i64 1, .string (⟨#[]⟩ : ByteArray), .int .i64 2, .int .i64 0, .string (⟨#[120]⟩ : ByteArray)]) (ok := fun _ => True) (okp := fun _ => True) ?hr ?hp (fun _ hk => hk) trivial (Below.refl _ _) (Nat.le_refl _) (by simp) ?_; (case hd => rfl); (case hg => rfl); (case hr => first | (go_simp; done) | (go_simp; rfl)); (case hp => exact (Reps.c3 (show Kd.M k33 _ _ _ (⟨1, 1, (⟨#[]⟩ : ByteArray)⟩ : S33) [.int .i64 1, .int .i64 1, .string (⟨#[]⟩ : ByteArray)] from (k33_mkM _ _ _ (⟨1, 1, (⟨#[]⟩ : ByteArray)⟩ : S33) )) (Reps.c3 (show Kd.M k33 _ _ _ (⟨3, 1, (⟨#[]⟩ : ByteArray)⟩ : S33) [.int .i64 3, .int .i64 1, .string (⟨#[]⟩ : ByteArray)] from (k33_mkM _ _ _ (⟨3, 1, (⟨#[]⟩ : ByteArray)⟩ : S33) )) (Reps.c3 (show Kd.M k33 _ _ _ (⟨2, 0, (⟨#[120]⟩ : ByteArray)⟩ : S33) [.int .i64 2, .int .i64 0, .string (⟨#[120]⟩ : ByteArray)] from (k33_mkM _ _ _ (⟨2, 0, (⟨#[120]⟩ : ByteArray)⟩ : S33) )) (Reps.none _ _))))); intro v102 w19 ho20 hb hg_ hnew_; clear hg_ hnew_; (first | rw [← Ny101.out] at ho20 | (simp only [Int.reduceToNat] at ho20; rw [← Ny101.out] at ho20)); have n0_ := Aside0.mk (Kd.R_lower ho20 (below_size (by repeat (first | (with_reducible first | exact HB.out | apply below_alloc | apply pw_below_drewN | apply below_drew1) | exact HB.out)))); have n1_ := Aside0.mk (below_step (by repeat (first | (with_reducible first | exact HB.out | apply below_alloc | apply pw_below_drewN | apply below_drew1) | exact HB.out)) hb); clear HB; have HO103 := n0_; have HB := n1_; clear n0_ n1_; clear hb ho20; obtain ⟨Ao21, co21, eo21⟩ := Kd.R_slice HO103.out; subst eo21) | ((with_reducible refine gate_callee (f := 17) rfl ?_); refine goesL_ (some 8) rfl rfl Tryd.func17 (by kernel_rfl) rfl #[.slice Ao21 y101.length co21] rfl (by (try simp only [List.map_toArray, List.map_cons, List.map_nil]); first | done | rfl | (simp only [List.length_drop, List.length_take]; rfl)) ?_; (with_reducible refine (gaps_Of.calls k _ _ y101 t104 t107 t110 _ ?side1 ?side2 ?side3 A1.out).mono ?_); (case side1 => first | (with_reducible exact HG.out) | exact Glob.below HG.out (by repeat (first | (with_reducible first | exact HB.out | apply below_alloc | apply pw_below_drewN | apply below_drew1) | exact HB.out)) | exact Glob.drawn HG.out (by repeat (first | exact Drawn0.refl _ | apply Drawn0.step))); (case side2 => repeat (first | exact (Kd.R_reads' HO103.out).2.2 | (with_reducible refine Kd.C_alloc ?_ _) | (with_reducible refine Kd.C_drewN ?_ _) | (with_reducible refine Kd.C_drew ?_))); (case side3 => exact (Kd.R_reads' HO103.out).2.1); rintro e w22 ⟨v105, v108, rfl, ho0, ho1, hb⟩; refine ⟨_, rfl, ?_⟩; have n0_ := Aside0.mk (Kd.R_below (by (with_reducible repeat (first | apply Kd.R_alloc | apply Kd.R_drewN | apply Kd.R_drew)); exact HO103.out) hb); have n1_ := Aside0.mk (Kd.V_lower (Kd.V_mono (ok' := fun k_ => some k_ ≠ (.slice Ao21 y101.length co21 : Value).ownBlock) ho0 (fun k_ hk_ => (Kd.fresh' (Kd.R_lt (by (with_reducible repeat (first | apply Kd.R_alloc | apply Kd.R_drewN | apply Kd.R_drew)); exact HO103.out)) k_ hk_))) (below_size (by repeat (first | (with_reducible first | exact HB.out | apply below_alloc | apply pw_below_drewN | apply below_drew1) | exact HB.out)))); have n2_ := Aside0.mk (Kd.V_lower (Kd.V_mono (ok' := fun k_ => some k_ ≠ (.slice Ao21 y101.length co21 : Value).ownBlock) ho1 (fun k_ hk_ => (Kd.fresh' (Kd.R_lt (by (with_reducible repeat (first | apply Kd.R_alloc | apply Kd.R_drewN | apply Kd.R_drew)); exact HO103.out)) k_ hk_))) (below_size (by repeat (first | (with_reducible first | exact HB.out | apply below_alloc | apply pw_below_drewN | apply below_drew1) | exact HB.out)))); have n3_ := Aside0.mk (below_step (by repeat (first | (with_reducible first | exact HB.out | apply below_alloc | apply pw_below_drewN | apply below_drew1) | exact HB.out)) hb); clear HO103; clear HB; have HO103 := n0_; have HO106 := n1_; have HO109 := n2_; have HB := n3_; clear n0_ n1_ n2_ n3_; (try clear hb); (try clear hb2); (try clear hk); (try clear hi); (try clear ho0); (try clear ho1)) | ((with_reducible refine gate_dst (N := 1) rfl ?_); (try (refine gate_guard (by rfl) ?_; dsimp only)); refine box_event ?hg (N := 1) ?hd (cs := #[.slice none 0 0, .slice none 0 0]) (t := 28) ?hr ?_; (case hd => rfl); (case hg => rfl); (case hr => first | (go_simp; done) | (go_simp; rfl)); intro gb111 hg w23 hbox hb; have n0_ := Aside0.mk (Kd.R_below (by (with_reducible repeat (first | apply Kd.R_alloc | apply Kd.R_drewN | apply Kd.R_drew)); exact HO103.out) hb); have n1_ := Aside0.mk (Kd.V_below (Kd.V_elderB (by (with_reducible repeat (first | apply Kd.V_alloc | apply Kd.V_drewN | apply Kd.V_drew)); exact HO106.out) gb111 (Nat.le_of_eq hg.symm)) hb); have n2_ := Aside0.mk (Kd.V_below (Kd.V_elderB (by (with_reducible repeat (first | apply Kd.V_alloc | apply Kd.V_drewN | apply Kd.V_drew)); exact HO109.out) gb111 (Nat.le_of_eq hg.symm)) hb); have n3_ := Aside0.mk (below_step (by repeat (first | (with_reducible first | exact HB.out | apply below_alloc | apply pw_below_drewN | apply below_drew1) | exact HB.out)) hb); have n4_ := Aside0.mk (hbox); have n5_ := Aside0.mk ((by rw [hg]; exact (below_size (by repeat (first | (with_reducible first | exact HB.out | apply below_alloc | apply pw_below_drewN | apply below_drew1) | exact HB.out))) : w.heap.size ≤ gb111)); have n6_ := Aside0.mk ((by rw [hg]; exact (below_size (by repeat (first | (with_reducible first | exact HB.out | apply below_alloc | apply pw_below_drewN | apply below_drew1) | exact HB.out))) : w.heap.size ≤ gb111)); clear HO103; clear HO106; clear HO109; clear HB; have HO103 := n0_; have HO106 := n1_; have HO109 := n2_; have HB := n3_; have BK111 := n4_; have GW111 := n5_; have GE111 := n6_; clear n0_ n1_ n2_ n3_ n4_ n5_ n6_; clear hb hbox hg; obtain ⟨Ao24, co24, eo24⟩ := Kd.V_slice HO106.out; subst eo24; have hcz25_0 : w23.cell? ⟨gb111, 0, none⟩ = some (.slice none 0 0) := (blk_cell BK111.out 0).trans rfl; have hcz25_1 : w23.cell? ⟨gb111, 1, none⟩ = some (.slice none 0 0) := (blk_cell BK111.out 1).trans rfl; have hfz25_0 := blk_frozen BK111.out 0; have hfz25_1 := blk_frozen BK111.out 1; obtain ⟨Ao26, co26, eo26⟩ := Kd.V_slice HO109.out; subst eo26))
    go_ret
    exact ⟨by first | rfl | (simp [errW_none, errW_some] <;> rfl) | (simp [*, errW_none, errW_some] <;> rfl), by repeat (first | (with_reducible first | exact HB.out | apply below_alloc | apply pw_below_drewN | apply below_drew1 | refine below_set ?_ GE111.out) | exact HB.out)⟩
end Go.Proofs.YtkgicpnnlkcaeaaDoor.F
end
section
namespace Go.Proofs.YtkgicpnnlkcaeaaDoor.F
open Go.RowKit Go.Proofs.YtkgicpnnlkcaeaaDoorW.PrintWords Go.Proofs.YtkgicpnnlkcaeaaDoorW.PrintLast Go.Proofs.YtkgicpnnlkcaeaaDoorW.PrintMore
attribute [local go_sem] max2_int min2_int max_two min_two max_three min_three max_four min_four cell_setCell_isSome
set_option linter.unusedVariables false
set_option linter.unusedSimpArgs false
mutual
def epitomeref01_first.j0 : Nat → ByteArray → Int → Int → Int → Bool → Option (Int × Int)
  | 0, _, _, _, _, _ => none
  | k + 1, x0, x4, x5, x6, x21 => if x21 = true then (epitomeref01_first.j3 k x0 3 (wrap64 (x4 - 240))) else (if x4 ≥ 224 then (epitomeref01_first.j1 k x0 x4 x5 x6 (decide (x4 < 240))) else (epitomeref01_first.j1 k x0 x4 x5 x6 false))
def epitomeref01_first.j3 : Nat → ByteArray → Int → Int → Option (Int × Int)
  | 0, _, _, _ => none
  | k + 1, x0, x5, x6 => if (x0.size : Int) < (wrap64 (x5 + 1)) then (some (0, 0)) else (epitomeref01_first.l0 k x0 x5 x6 1)
def epitomeref01_first.l0 : Nat → ByteArray → Int → Int → Int → Option (Int × Int)
  | 0, _, _, _, _ => none
  | k + 1, x0, x5, x6, x7 => if x7 ≤ x5 then (if 0 ≤ x7 then (if x7 < (x0.size : Int) then (if (wrap64 (bt x0 x7)) < 128 then (some (0, 0)) else (if (wrap64 (bt x0 x7)) > 191 then (some (0, 0)) else (epitomeref01_first.l0 k x0 x5 (wrap64 ((wrap64 ((wrap64 (x6 * 64)) + (wrap64 (bt x0 x7)))) - 128)) (wrap64 (x7 + 1))))) else (none)) else (none)) else ((epitomeref01_size.f k x6).bind fun t101 => (if t101 = (wrap64 (x5 + 1)) then (some (x6, wrap64 (x5 + 1))) else (some (0, 0))))
def epitomeref01_first.j1 : Nat → ByteArray → Int → Int → Int → Bool → Option (Int × Int)
  | 0, _, _, _, _, _ => none
  | k + 1, x0, x4, x5, x6, x29 => if x29 = true then (epitomeref01_first.j3 k x0 2 (wrap64 (x4 - 224))) else (if x4 ≥ 192 then (epitomeref01_first.j2 k x0 x4 x5 x6 (decide (x4 < 224))) else (epitomeref01_first.j2 k x0 x4 x5 x6 false))
def epitomeref01_first.j2 : Nat → ByteArray → Int → Int → Int → Bool → Option (Int × Int)
  | 0, _, _, _, _, _ => none
  | k + 1, x0, x4, x5, x6, x37 => if x37 = true then (epitomeref01_first.j3 k x0 1 (wrap64 (x4 - 192))) else (if x4 ≥ 128 then (some (0, 0)) else (epitomeref01_first.j3 k x0 x5 x6))
end
def epitomeref01_first.f (k : Nat) (a0 : ByteArray) : Option (Int × Int) := if (a0.size : Int) = 0 then (some (0, 0)) else (if 0 < (a0.size : Int) then (if (wrap64 (bt a0 0)) ≥ 240 then (epitomeref01_first.j0 k a0 (wrap64 (bt a0 0)) 0 (wrap64 (bt a0 0)) (decide ((wrap64 (bt a0 0)) < 248))) else (epitomeref01_first.j0 k a0 (wrap64 (bt a0 0)) 0 (wrap64 (bt a0 0)) false)) else (none))
set_option maxHeartbeats 8000000 in
set_option maxRecDepth 100000 in
theorem epitomeref01_first.calls (k : Nat) (a0 : ByteArray) (r1 : Int) (r2 : Int) (w : World) (h : epitomeref01_first.f k a0 = some (r1, r2)) :
    Calls Tryd.prog 60 #[.string a0] w fun e w' => e = .returned (.tuple #[.int .i64 r1, .int .i64 r2]) ∧ Drawn0 w w' := by
  have H : (if (a0.size : Int) = 0 then (some (0, 0)) else (if 0 < (a0.size : Int) then (if (wrap64 (bt a0 0)) ≥ 240 then (epitomeref01_first.j0 k a0 (wrap64 (bt a0 0)) 0 (wrap64 (bt a0 0)) (decide ((wrap64 (bt a0 0)) < 248))) else (epitomeref01_first.j0 k a0 (wrap64 (bt a0 0)) 0 (wrap64 (bt a0 0)) false)) else (none))) = some (r1, r2) := h
  clear h
  by_cases c2 : (a0.size : Int) = 0
  · rw [if_pos c2] at H
    have c2b0 : ((a0.size : Int) == 0) = true := beq_iff_eq.mpr c2
    have c2b1 : ((a0.size : Int) != 0) = false := bne_eq_false_iff_eq.mpr c2
    clear c2
    simp only [Option.some.injEq, Prod.mk.injEq] at H
    obtain ⟨rfl, rfl⟩ := H
    go_enter Tryd.func60, Tryd.ntmps60
    go_wp2
    go_ret2
    exact ⟨by first | rfl | (simp; done) | (simp [*]; done), by repeat (first | exact Drawn0.refl _ | apply Drawn0.step)⟩
  · rw [if_neg c2] at H
    have c2b0 : ((a0.size : Int) == 0) = false := beq_eq_false_iff_ne.mpr c2
    have c2b1 : ((a0.size : Int) != 0) = true := bne_iff_ne.mpr c2
    by_cases c3 : 0 < (a0.size : Int)
    · rw [if_pos c3] at H
      have c3b0 : decide (0 < (a0.size : Int)) = true := decide_eq_true c3
      have c3b1 : decide (0 < a0.size) = true := decide_eq_true (by omega)
      clear c3
      have HC5 := Aside0.mk H
      clear H
      have p4 : 0 ≤ (0 : Int) := (by omega)
      have q4 : 0 < a0.size := (by have : (0 : Int) < (a0.size : Int) := of_decide_eq_true (by first | (with_reducible assumption) | assumption); omega)
      have hx4 : ∀ h : 0 < a0.size, ((a0[0]'h).toNat : Int) = bt a0 0 := bt_at a0 0
      clear p4
      have qi4 : (0 < (a0.size : Int)) = True := eq_true (of_decide_eq_true (by first | (with_reducible assumption) | assumption))
      replace q4 := eq_true q4
      go_enter Tryd.func60, Tryd.ntmps60
      go_upto_region 6 with (fail)
      go_cut [21] (fun v21 wc => ∃ (kq : Nat) (x21_4 : Bool), v21 = .bool x21_4 ∧ Aside0 (epitomeref01_first.j0 kq a0 (wrap64 (bt a0 0)) 0 (wrap64 (bt a0 0)) x21_4 = some (r1, r2)) ∧ Aside0 (kq ≤ k) ∧ Drawn0 w wc)
      case first =>
        have H := HC5.out
        clear HC5
        by_cases c6 : (wrap64 (bt a0 0)) ≥ 240
        · rw [if_pos c6] at H
          have c6b0 : decide (240 ≤ (wrap64 (bt a0 0))) = true := decide_eq_true c6
          clear c6
          (first | rw [c6b0] | (simp only [i64_w, i32_w]; rw [c6b0]) | skip)
          have H' := Aside0.mk H
          clear H
          go_wp2
          go_meet
          case rel => exact ⟨_, (decide ((wrap64 (bt a0 0)) < 248)), (by first | rfl | (simp; done) | (simp [*]; done)), H', ⟨by first | omega | exact Nat.le_refl _⟩, by repeat (first | exact Drawn0.refl _ | apply Drawn0.step)⟩
        · rw [if_neg c6] at H
          have c6b0 : decide (240 ≤ (wrap64 (bt a0 0))) = false := decide_eq_false c6
          clear c6
          (first | rw [c6b0] | (simp only [i64_w, i32_w]; rw [c6b0]) | skip)
          have H' := Aside0.mk H
          clear H
          go_wp2
          go_meet
          case rel => exact ⟨_, (false), (by first | rfl | (simp; done) | (simp [*]; done)), H', ⟨by first | omega | exact Nat.le_refl _⟩, by repeat (first | exact Drawn0.refl _ | apply Drawn0.step)⟩
      case rest =>
        clear HC5
        try clear c2
        try clear c2b0
        try clear c2b1
        try clear p2
        try clear c3
        try clear c3b0
        try clear c3b1
        try clear p4
        try clear q4
        try clear hx4
        try clear qi4
        try clear c6
        try clear c6b0
        try clear p6
        try clear p4
        try clear q4
        obtain ⟨kq, x21_4, rfl, HA, HJ4, ⟨mc4, rfl⟩⟩ := hcut
        cases kq with
        | zero => exact absurd HA.out (by simp [epitomeref01_first.j0])
        | succ kj4 =>
          have H := HA.out
          clear HA
          simp only [epitomeref01_first.j0] at H
          have HC7 := Aside0.mk H
          clear H
          go_upto_if 21 with (fail)
          go_cut [5, 6] (fun v5 v6 wc => ∃ (kq : Nat) (x5_6 : Int) (x6_6 : Int), v5 = .int .i64 x5_6 ∧ v6 = .int .i64 x6_6 ∧ Aside0 (epitomeref01_first.j3 kq a0 x5_6 x6_6 = some (r1, r2)) ∧ Aside0 (kq ≤ kj4) ∧ Drawn0 w wc)
          case first =>
            have H := HC7.out
            clear HC7
            by_cases c8 : x21_4 = true
            · subst c8
              have H1 : (epitomeref01_first.j3 kj4 a0 3 (wrap64 ((wrap64 (bt a0 0)) - 240))) = some (r1, r2) := by rw [if_pos rfl] at H; exact H
              clear H
              have H := H1
              clear H1
              have H' := Aside0.mk H
              clear H
              go_wp2
              go_meet
              case rel => exact ⟨_, (3), (wrap64 ((wrap64 (bt a0 0)) - 240)), (by first | rfl | (simp; done) | (simp [*]; done)), (by first | rfl | (simp; done) | (simp [*]; done)), H', ⟨by have := HJ4.out; first | omega | exact Nat.le_refl _⟩, by repeat (first | exact Drawn0.refl _ | apply Drawn0.step)⟩
            · replace c8 := Bool.eq_false_iff.mpr c8
              subst c8
              have H1 : (if (wrap64 (bt a0 0)) ≥ 224 then (epitomeref01_first.j1 kj4 a0 (wrap64 (bt a0 0)) 0 (wrap64 (bt a0 0)) (decide ((wrap64 (bt a0 0)) < 240))) else (epitomeref01_first.j1 kj4 a0 (wrap64 (bt a0 0)) 0 (wrap64 (bt a0 0)) false)) = some (r1, r2) := by rw [if_neg (show ¬ (false = true) by decide)] at H; exact H
              clear H
              have H := H1
              clear H1
              have HC9 := Aside0.mk H
              clear H
              go_upto_region 9 with (fail)
              go_cut [29] (fun v29 wc => ∃ (kq : Nat) (x29_8 : Bool), v29 = .bool x29_8 ∧ Aside0 (epitomeref01_first.j1 kq a0 (wrap64 (bt a0 0)) 0 (wrap64 (bt a0 0)) x29_8 = some (r1, r2)) ∧ Aside0 (kq ≤ kj4) ∧ Drawn0 w wc)
              case first =>
                have H := HC9.out
                clear HC9
                by_cases c10 : (wrap64 (bt a0 0)) ≥ 224
                · rw [if_pos c10] at H
                  have c10b0 : decide (224 ≤ (wrap64 (bt a0 0))) = true := decide_eq_true c10
                  clear c10
                  (first | rw [c10b0] | (simp only [i64_w, i32_w]; rw [c10b0]) | skip)
                  have H' := Aside0.mk H
                  clear H
                  go_wp2
                  go_meet
                  case rel => exact ⟨_, (decide ((wrap64 (bt a0 0)) < 240)), (by first | rfl | (simp; done) | (simp [*]; done)), H', ⟨by have := HJ4.out; first | omega | exact Nat.le_refl _⟩, by repeat (first | exact Drawn0.refl _ | apply Drawn0.step)⟩
                · rw [if_neg c10] at H
                  have c10b0 : decide (224 ≤ (wrap64 (bt a0 0))) = false := decide_eq_false c10
                  clear c10
                  (first | rw [c10b0] | (simp only [i64_w, i32_w]; rw [c10b0]) | skip)
                  have H' := Aside0.mk H
                  clear H
                  go_wp2
                  go_meet
                  case rel => exact ⟨_, (false), (by first | rfl | (simp; done) | (simp [*]; done)), H', ⟨by have := HJ4.out; first | omega | exact Nat.le_refl _⟩, by repeat (first | exact Drawn0.refl _ | apply Drawn0.step)⟩
              case rest =>
                clear HC9
                try clear c1
                try clear c2
                try clear c2b0
                try clear c2b1
                try clear p2
                try clear c3
                try clear c3b0
                try clear c3b1
                try clear c4
                try clear p4
                try clear q4
                try clear hx4
                try clear qi4
                try clear c6
                try clear c6b0
                try clear p6
                try clear c8
                try clear c10
                try clear c10b0
                try clear p2
                try clear p4
                try clear p6
                try clear q4
                obtain ⟨kq, x29_8, rfl, HA, HJ8, ⟨mc8, rfl⟩⟩ := hcut
                cases kq with
                | zero => exact absurd HA.out (by simp [epitomeref01_first.j1])
                | succ kj8 =>
                  have H := HA.out
                  clear HA
                  simp only [epitomeref01_first.j1] at H
                  by_cases c11 : x29_8 = true
                  · subst c11
                    have H1 : (epitomeref01_first.j3 kj8 a0 2 (wrap64 ((wrap64 (bt a0 0)) - 224))) = some (r1, r2) := by rw [if_pos rfl] at H; exact H
                    clear H
                    have H := H1
                    clear H1
                    have H' := Aside0.mk H
                    clear H
                    go_wp2
                    go_meet
                    case rel => exact ⟨_, (2), (wrap64 ((wrap64 (bt a0 0)) - 224)), (by first | rfl | (simp; done) | (simp [*]; done)), (by first | rfl | (simp; done) | (simp [*]; done)), H', ⟨by have := HJ4.out; have := HJ8.out; first | omega | exact Nat.le_refl _⟩, by repeat (first | exact Drawn0.refl _ | apply Drawn0.step)⟩
                  · replace c11 := Bool.eq_false_iff.mpr c11
                    subst c11
                    have H1 : (if (wrap64 (bt a0 0)) ≥ 192 then (epitomeref01_first.j2 kj8 a0 (wrap64 (bt a0 0)) 0 (wrap64 (bt a0 0)) (decide ((wrap64 (bt a0 0)) < 224))) else (epitomeref01_first.j2 kj8 a0 (wrap64 (bt a0 0)) 0 (wrap64 (bt a0 0)) false)) = some (r1, r2) := by rw [if_neg (show ¬ (false = true) by decide)] at H; exact H
                    clear H
                    have H := H1
                    clear H1
                    have HC12 := Aside0.mk H
                    clear H
                    go_upto_region 12 with (fail)
                    go_cut [37] (fun v37 wc => ∃ (kq : Nat) (x37_11 : Bool), v37 = .bool x37_11 ∧ Aside0 (epitomeref01_first.j2 kq a0 (wrap64 (bt a0 0)) 0 (wrap64 (bt a0 0)) x37_11 = some (r1, r2)) ∧ Aside0 (kq ≤ kj8) ∧ Drawn0 w wc)
                    case first =>
                      have H := HC12.out
                      clear HC12
                      by_cases c13 : (wrap64 (bt a0 0)) ≥ 192
                      · rw [if_pos c13] at H
                        have c13b0 : decide (192 ≤ (wrap64 (bt a0 0))) = true := decide_eq_true c13
                        clear c13
                        (first | rw [c13b0] | (simp only [i64_w, i32_w]; rw [c13b0]) | skip)
                        have H' := Aside0.mk H
                        clear H
                        go_wp2
                        go_meet
                        case rel => exact ⟨_, (decide ((wrap64 (bt a0 0)) < 224)), (by first | rfl | (simp; done) | (simp [*]; done)), H', ⟨by have := HJ4.out; have := HJ8.out; first | omega | exact Nat.le_refl _⟩, by repeat (first | exact Drawn0.refl _ | apply Drawn0.step)⟩
                      · rw [if_neg c13] at H
                        have c13b0 : decide (192 ≤ (wrap64 (bt a0 0))) = false := decide_eq_false c13
                        clear c13
                        (first | rw [c13b0] | (simp only [i64_w, i32_w]; rw [c13b0]) | skip)
                        have H' := Aside0.mk H
                        clear H
                        go_wp2
                        go_meet
                        case rel => exact ⟨_, (false), (by first | rfl | (simp; done) | (simp [*]; done)), H', ⟨by have := HJ4.out; have := HJ8.out; first | omega | exact Nat.le_refl _⟩, by repeat (first | exact Drawn0.refl _ | apply Drawn0.step)⟩
                    case rest =>
                      clear HC12
                      try clear c1
                      try clear c2
                      try clear c2b0
                      try clear c2b1
                      try clear p2
                      try clear c3
                      try clear c3b0
                      try clear c3b1
                      try clear c4
                      try clear p4
                      try clear q4
                      try clear hx4
                      try clear qi4
                      try clear c6
                      try clear c6b0
                      try clear p6
                      try clear c8
                      try clear c10
                      try clear c10b0
                      try clear c11
                      try clear c13
                      try clear c13b0
                      try clear p2
                      try clear p4
                      try clear p6
                      try clear q4
                      obtain ⟨kq, x37_11, rfl, HA, HJ11, ⟨mc11, rfl⟩⟩ := hcut
                      cases kq with
                      | zero => exact absurd HA.out (by simp [epitomeref01_first.j2])
                      | succ kj11 =>
                        have H := HA.out
                        clear HA
                        simp only [epitomeref01_first.j2] at H
                        by_cases c14 : x37_11 = true
                        · subst c14
                          have H1 : (epitomeref01_first.j3 kj11 a0 1 (wrap64 ((wrap64 (bt a0 0)) - 192))) = some (r1, r2) := by rw [if_pos rfl] at H; exact H
                          clear H
                          have H := H1
                          clear H1
                          have H' := Aside0.mk H
                          clear H
                          go_wp2
                          go_meet
                          case rel => exact ⟨_, (1), (wrap64 ((wrap64 (bt a0 0)) - 192)), (by first | rfl | (simp; done) | (simp [*]; done)), (by first | rfl | (simp; done) | (simp [*]; done)), H', ⟨by have := HJ4.out; have := HJ8.out; have := HJ11.out; first | omega | exact Nat.le_refl _⟩, by repeat (first | exact Drawn0.refl _ | apply Drawn0.step)⟩
                        · replace c14 := Bool.eq_false_iff.mpr c14
                          subst c14
                          have H1 : (if (wrap64 (bt a0 0)) ≥ 128 then (some (0, 0)) else (epitomeref01_first.j3 kj11 a0 0 (wrap64 (bt a0 0)))) = some (r1, r2) := by rw [if_neg (show ¬ (false = true) by decide)] at H; exact H
                          clear H
                          have H := H1
                          clear H1
                          by_cases c15 : (wrap64 (bt a0 0)) ≥ 128
                          · rw [if_pos c15] at H
                            have c15b0 : decide (128 ≤ (wrap64 (bt a0 0))) = true := decide_eq_true c15
                            clear c15
                            simp only [Option.some.injEq, Prod.mk.injEq] at H
                            obtain ⟨rfl, rfl⟩ := H
                            go_wp2
                            go_ret2
                            exact ⟨by first | rfl | (simp; done) | (simp [*]; done), by repeat (first | exact Drawn0.refl _ | apply Drawn0.step)⟩
                          · rw [if_neg c15] at H
                            have c15b0 : decide (128 ≤ (wrap64 (bt a0 0))) = false := decide_eq_false c15
                            clear c15
                            have H' := Aside0.mk H
                            clear H
                            go_wp2
                            go_meet
                            case rel => exact ⟨_, (0), ((wrap64 (bt a0 0))), (by first | rfl | (simp; done) | (simp [*]; done)), (by first | rfl | (simp; done) | (simp [*]; done)), H', ⟨by have := HJ4.out; have := HJ8.out; have := HJ11.out; first | omega | exact Nat.le_refl _⟩, by repeat (first | exact Drawn0.refl _ | apply Drawn0.step)⟩
          case rest =>
            clear HC7
            try clear c1
            try clear c2
            try clear c2b0
            try clear c2b1
            try clear p2
            try clear c3
            try clear c3b0
            try clear c3b1
            try clear c4
            try clear p4
            try clear q4
            try clear hx4
            try clear qi4
            try clear c6
            try clear c6b0
            try clear p6
            try clear c8
            try clear c10
            try clear c10b0
            try clear c11
            try clear c13
            try clear c13b0
            try clear c14
            try clear c15
            try clear c15b0
            try clear p2
            try clear p4
            try clear p6
            try clear q4
            obtain ⟨kq, x5_6, x6_6, rfl, rfl, HA, HJ6, ⟨mc6, rfl⟩⟩ := hcut
            cases kq with
            | zero => exact absurd HA.out (by simp [epitomeref01_first.j3])
            | succ kj6 =>
              have H := HA.out
              clear HA
              simp only [epitomeref01_first.j3] at H
              by_cases c16 : (a0.size : Int) < (wrap64 (x5_6 + 1))
              · rw [if_pos c16] at H
                have c16b0 : decide ((a0.size : Int) < (wrap64 (x5_6 + 1))) = true := decide_eq_true c16
                clear c16
                simp only [Option.some.injEq, Prod.mk.injEq] at H
                obtain ⟨rfl, rfl⟩ := H
                go_wp2
                go_ret2
                exact ⟨by first | rfl | (simp; done) | (simp [*]; done), by repeat (first | exact Drawn0.refl _ | apply Drawn0.step)⟩
              · rw [if_neg c16] at H
                have c16b0 : decide ((a0.size : Int) < (wrap64 (x5_6 + 1))) = false := decide_eq_false c16
                clear c16
                have H' := Aside0.mk H
                clear H
                go_wp2
                go_loopg [6, 7] kj6 (fun kq v6 v7 w' => ∃ (x6_3 : Int) (x7_3 : Int), v6 = .int .i64 x6_3 ∧ v7 = .int .i64 x7_3 ∧ Aside0 (epitomeref01_first.l0 kq a0 x5_6 x6_3 x7_3 = some (r1, r2)) ∧ Aside0 (kq ≤ kj6) ∧ Drawn0 w w')
                case atStart => exact ⟨(x6_6), (1), (by first | rfl | (simp; done) | (simp [*]; done)), (by first | rfl | (simp; done) | (simp [*]; done)), H', ⟨Nat.le_refl _⟩, by repeat (first | exact Drawn0.refl _ | apply Drawn0.step)⟩
                case round =>
                  clear H'
                  try clear c1
                  try clear c2
                  try clear c2b0
                  try clear c2b1
                  try clear p2
                  try clear c3
                  try clear c3b0
                  try clear c3b1
                  try clear c4
                  try clear p4
                  try clear q4
                  try clear hx4
                  try clear qi4
                  try clear c6
                  try clear c6b0
                  try clear p6
                  try clear c8
                  try clear c10
                  try clear c10b0
                  try clear c11
                  try clear c13
                  try clear c13b0
                  try clear c14
                  try clear c15
                  try clear c15b0
                  try clear c16
                  try clear c16b0
                  try clear p2
                  try clear p4
                  try clear p6
                  try clear q4
                  obtain ⟨x6_3, x7_3, rfl, rfl, HA, HK3, ⟨m3, rfl⟩⟩ := hrel
                  cases gk with
                  | zero => exact absurd HA.out (by simp [epitomeref01_first.l0])
                  | succ k3 =>
                    have H := HA.out
                    clear HA
                    simp only [epitomeref01_first.l0] at H
                    by_cases c17 : x7_3 ≤ x5_6
                    · rw [if_pos c17] at H
                      have c17b0 : decide (x7_3 ≤ x5_6) = true := decide_eq_true c17
                      clear c17
                      by_cases c18 : 0 ≤ x7_3
                      · rw [if_pos c18] at H
                        have c18b0 : decide (0 ≤ x7_3) = true := decide_eq_true c18
                        clear c18
                        by_cases c19 : x7_3 < (a0.size : Int)
                        · rw [if_pos c19] at H
                          have c19b0 : decide (x7_3 < (a0.size : Int)) = true := decide_eq_true c19
                          clear c19
                          by_cases c21 : (wrap64 (bt a0 x7_3)) < 128
                          · rw [if_pos c21] at H
                            have c21b0 : decide ((wrap64 (bt a0 x7_3)) < 128) = true := decide_eq_true c21
                            clear c21
                            simp only [Option.some.injEq, Prod.mk.injEq] at H
                            obtain ⟨rfl, rfl⟩ := H
                            have p20 : 0 ≤ (x7_3 : Int) := of_decide_eq_true (by first | (with_reducible assumption) | assumption)
                            have q20 : x7_3 < (a0.size : Int) := of_decide_eq_true (by first | (with_reducible assumption) | assumption)
                            have hx20 := bt_at a0 x7_3
                            replace p20 := eq_true p20
                            replace q20 := eq_true q20
                            go_wp2
                            go_ret2
                            exact ⟨by first | rfl | (simp; done) | (simp [*]; done), by repeat (first | exact Drawn0.refl _ | apply Drawn0.step)⟩
                          · rw [if_neg c21] at H
                            have c21b0 : decide ((wrap64 (bt a0 x7_3)) < 128) = false := decide_eq_false c21
                            clear c21
                            by_cases c22 : (wrap64 (bt a0 x7_3)) > 191
                            · rw [if_pos c22] at H
                              have c22b0 : decide (191 < (wrap64 (bt a0 x7_3))) = true := decide_eq_true c22
                              clear c22
                              simp only [Option.some.injEq, Prod.mk.injEq] at H
                              obtain ⟨rfl, rfl⟩ := H
                              have p20 : 0 ≤ (x7_3 : Int) := of_decide_eq_true (by first | (with_reducible assumption) | assumption)
                              have q20 : x7_3 < (a0.size : Int) := of_decide_eq_true (by first | (with_reducible assumption) | assumption)
                              have hx20 := bt_at a0 x7_3
                              replace p20 := eq_true p20
                              replace q20 := eq_true q20
                              go_wp2
                              go_ret2
                              exact ⟨by first | rfl | (simp; done) | (simp [*]; done), by repeat (first | exact Drawn0.refl _ | apply Drawn0.step)⟩
                            · rw [if_neg c22] at H
                              have c22b0 : decide (191 < (wrap64 (bt a0 x7_3))) = false := decide_eq_false c22
                              clear c22
                              have H' := Aside0.mk H
                              clear H
                              have p20 : 0 ≤ (x7_3 : Int) := of_decide_eq_true (by first | (with_reducible assumption) | assumption)
                              have q20 : x7_3 < (a0.size : Int) := of_decide_eq_true (by first | (with_reducible assumption) | assumption)
                              have hx20 := bt_at a0 x7_3
                              replace p20 := eq_true p20
                              replace q20 := eq_true q20
                              go_wp2
                              go_roundg k3
                              case measure => have := HJ4.out; have := HJ6.out; have := HK3.out; omega
                              case rel => exact ⟨(wrap64 ((wrap64 ((wrap64 (x6_3 * 64)) + (wrap64 (bt a0 x7_3)))) - 128)), (wrap64 (x7_3 + 1)), (by first | rfl | (simp; done) | (simp [*]; done)), (by first | rfl | (simp; done) | (simp [*]; done)), H', ⟨by have := HJ4.out; have := HJ6.out; have := HK3.out; omega⟩, by repeat (first | exact Drawn0.refl _ | apply Drawn0.step)⟩
                        · rw [if_neg c19] at H
                          exact absurd H (by simp)
                      · rw [if_neg c18] at H
                        exact absurd H (by simp)
                    · rw [if_neg c17] at H
                      have c17b0 : decide (x7_3 ≤ x5_6) = false := decide_eq_false c17
                      clear c17
                      replace H := Option.bind_eq_some_iff.mp H
                      obtain ⟨t101, A230, H⟩ := H
                      replace H : (if t101 = (wrap64 (x5_6 + 1)) then (some (x6_3, wrap64 (x5_6 + 1))) else (some (0, 0))) = some (r1, r2) := H
                      have A23 := Aside0.mk A230
                      clear A230
                      by_cases c24 : t101 = (wrap64 (x5_6 + 1))
                      · rw [if_pos c24] at H
                        have c24b0 : (t101 == (wrap64 (x5_6 + 1))) = true := beq_iff_eq.mpr c24
                        have c24b1 : (t101 != (wrap64 (x5_6 + 1))) = false := bne_eq_false_iff_eq.mpr c24
                        clear c24
                        simp only [Option.some.injEq, Prod.mk.injEq] at H
                        obtain ⟨rfl, rfl⟩ := H
                        go_wp2_with (first | ((with_reducible refine gate_callee (f := 56) rfl ?_); refine goesL_ (some 68) rfl rfl Tryd.func56 (by kernel_rfl) rfl #[.int .i64 x6_3] rfl (by (try simp only [List.map_toArray, List.map_cons, List.map_nil]); first | done | rfl | (simp only [List.length_drop, List.length_take]; rfl)) ?_; (with_reducible refine (epitomeref01_size.calls k3 x6_3 t101 _ A23.out).mono ?_); rintro e w' ⟨rfl, ⟨nd, rfl⟩⟩; refine ⟨_, rfl, ?_⟩))
                        go_ret2
                        exact ⟨by first | rfl | (simp; done) | (simp [*]; done), by repeat (first | exact Drawn0.refl _ | apply Drawn0.step)⟩
                      · rw [if_neg c24] at H
                        have c24b0 : (t101 == (wrap64 (x5_6 + 1))) = false := beq_eq_false_iff_ne.mpr c24
                        have c24b1 : (t101 != (wrap64 (x5_6 + 1))) = true := bne_iff_ne.mpr c24
                        simp only [Option.some.injEq, Prod.mk.injEq] at H
                        obtain ⟨rfl, rfl⟩ := H
                        go_wp2_with (first | ((with_reducible refine gate_callee (f := 56) rfl ?_); refine goesL_ (some 68) rfl rfl Tryd.func56 (by kernel_rfl) rfl #[.int .i64 x6_3] rfl (by (try simp only [List.map_toArray, List.map_cons, List.map_nil]); first | done | rfl | (simp only [List.length_drop, List.length_take]; rfl)) ?_; (with_reducible refine (epitomeref01_size.calls k3 x6_3 t101 _ A23.out).mono ?_); rintro e w' ⟨rfl, ⟨nd, rfl⟩⟩; refine ⟨_, rfl, ?_⟩))
                        go_ret2
                        exact ⟨by first | rfl | (simp; done) | (simp [*]; done), by repeat (first | exact Drawn0.refl _ | apply Drawn0.step)⟩
    · rw [if_neg c3] at H
      exact absurd H (by simp)
end Go.Proofs.YtkgicpnnlkcaeaaDoor.F
end
section
namespace Go.Proofs.YtkgicpnnlkcaeaaDoor.F
open Go.RowKit Go.Proofs.YtkgicpnnlkcaeaaDoorW.PrintWords Go.Proofs.YtkgicpnnlkcaeaaDoorW.PrintLast Go.Proofs.YtkgicpnnlkcaeaaDoorW.PrintMore
attribute [local go_sem] max2_int min2_int max_two min_two max_three min_three max_four min_four cell_setCell_isSome
set_option linter.unusedVariables false
set_option linter.unusedSimpArgs false
def epitomeref01_Starts.l0 : Nat → ByteArray → List Int → Int → Option (List Int × Bool)
  | 0, _, _, _ => none
  | k + 1, x0, x4, x5 => if x5 < (x0.size : Int) then (if 0 ≤ x5 then (if x5 ≤ (x0.size : Int) then ((epitomeref01_first.f k (x0.extract (x5 : Int).toNat x0.size)).bind fun bt104 => (if bt104.2 = 0 then (some (([] : List Int), false)) else (if x4.length < 17592186044416 then (epitomeref01_Starts.l0 k x0 (x4 ++ [wrap64 (x5 + bt104.2)]) (wrap64 (x5 + bt104.2))) else (none)))) else (none)) else (none)) else (some (x4, true))
def epitomeref01_Starts.f (k : Nat) (a0 : ByteArray) : Option (List Int × Bool) := epitomeref01_Starts.l0 k a0 (([0] : List Int)) 0
set_option maxHeartbeats 8000000 in
set_option maxRecDepth 100000 in
theorem epitomeref01_Starts.calls (k : Nat) (a0 : ByteArray) (r1 : List Int) (r2 : Bool) (w : World) (h : epitomeref01_Starts.f k a0 = some (r1, r2)) :
    Calls Tryd.prog 46 #[.string a0] w fun e w' => ∃ v0_ : Value, e = .returned (.tuple #[v0_, .bool r2]) ∧ Kd.R (Kd.int .i64) 3 w' w.heap.size (fun _ => True) v0_ r1 ∧ Below w.heap.size w w' := by
  have HB := Aside0.mk (Below.refl w.heap.size w)
  have H : (epitomeref01_Starts.l0 k a0 (([0] : List Int)) 0) = some (r1, r2) := h
  clear h
  obtain ⟨y101, hy101⟩ : ∃ y_ : List Int, y_ = (([0] : List Int)) := ⟨_, rfl⟩
  replace H : (epitomeref01_Starts.l0 k a0 y101 0) = some (r1, r2) := by first | (rw [hy101]; with_reducible exact H) | (have H2_ := (Option.bind_some _ _).symm.trans H; rw [hy101]; with_reducible exact H2_) | (have H2_ := (Option.bind_some _ _).symm.trans H; with_reducible exact H2_) | with_reducible exact H | (rw [hy101]; exact H) | exact H
  have Ny101 := Aside0.mk hy101
  clear hy101
  have H' := Aside0.mk H
  clear H
  go_enter Tryd.func46, Tryd.ntmps46
  go_wp2_with (first | ((with_reducible refine gate_dst (N := 8) rfl ?_); refine Kd.R_lit (Kd.int .i64) _ 3 ?hg (N := 8) ?hd (xs := ([0] : List Int)) (inner := [.int .i64 0]) (ok := fun _ => True) (okp := fun _ => True) ?hr ?hp (fun _ hk => hk) trivial (Below.refl _ _) (Nat.le_refl _) (by simp) ?_; (case hd => rfl); (case hg => rfl); (case hr => first | (go_simp; done) | (go_simp; rfl)); (case hp => exact (Reps.one (show Kd.M (Kd.int .i64) _ _ _ 0 [.int .i64 0] from rfl) (Reps.none _ _))); intro v102 w2 ho3 hb hg_ hnew_; clear hg_ hnew_; (first | rw [← Ny101.out] at ho3 | (simp only [Int.reduceToNat] at ho3; rw [← Ny101.out] at ho3)); have n0_ := Aside0.mk (Kd.R_lower ho3 (below_size (by repeat (first | (with_reducible first | exact HB.out | apply below_alloc | apply pw_below_drewN | apply below_drew1) | exact HB.out)))); have n1_ := Aside0.mk (below_step (by repeat (first | (with_reducible first | exact HB.out | apply below_alloc | apply pw_below_drewN | apply below_drew1) | exact HB.out)) hb); clear HB; have HO103 := n0_; have HB := n1_; clear n0_ n1_; clear hb ho3))
  go_loopg [4, 5] k (fun kq v4 v5 w' => ∃ (x4_1 : List Int) (x5_1 : Int), v5 = .int .i64 x5_1 ∧ Aside0 (epitomeref01_Starts.l0 kq a0 x4_1 x5_1 = some (r1, r2)) ∧ Aside0 (kq ≤ k) ∧ Aside0 (Kd.R (Kd.int .i64) 3 w' w.heap.size (fun _ => True) v4 x4_1) ∧ Aside0 (Below w.heap.size w w'))
  case atStart => exact ⟨(y101), (0), (by first | rfl | (simp; done) | (simp [*]; done)), H', ⟨Nat.le_refl _⟩, ⟨by (with_reducible repeat (first | apply Kd.R_alloc | apply Kd.R_drewN | apply Kd.R_drew)); exact HO103.out⟩, ⟨by repeat (first | (with_reducible first | exact HB.out | apply below_alloc | apply pw_below_drewN | apply below_drew1) | exact HB.out)⟩⟩
  case round =>
    clear H'
    try clear p2
    obtain ⟨x4_1, x5_1, rfl, HA, HK1, HO_4, HB⟩ := hrel
    cases gk with
    | zero => exact absurd HA.out (by simp [epitomeref01_Starts.l0])
    | succ k1 =>
      have H := HA.out
      clear HA
      simp only [epitomeref01_Starts.l0] at H
      by_cases c4 : x5_1 < (a0.size : Int)
      · rw [if_pos c4] at H
        have c4b0 : decide (x5_1 < (a0.size : Int)) = true := decide_eq_true c4
        clear c4
        by_cases c5 : 0 ≤ x5_1
        · rw [if_pos c5] at H
          have c5b0 := eq_true c5
          have c5b1 : decide (0 ≤ x5_1) = true := decide_eq_true c5
          clear c5
          by_cases c6 : x5_1 ≤ (a0.size : Int)
          · rw [if_pos c6] at H
            have c6b0 := eq_true c6
            have c6b1 : decide (x5_1 ≤ (a0.size : Int)) = true := decide_eq_true c6
            clear c6
            replace H := Option.bind_eq_some_iff.mp H
            obtain ⟨⟨t104, t105⟩, A70, H⟩ := H
            replace H : (if t105 = 0 then (some (([] : List Int), false)) else (if x4_1.length < 17592186044416 then (epitomeref01_Starts.l0 k1 a0 (x4_1 ++ [wrap64 (x5_1 + t105)]) (wrap64 (x5_1 + t105))) else (none))) = some (r1, r2) := H
            have A7 := Aside0.mk A70
            clear A70
            by_cases c8 : t105 = 0
            · rw [if_pos c8] at H
              have c8b0 : (t105 == 0) = true := beq_iff_eq.mpr c8
              have c8b1 : (t105 != 0) = false := bne_eq_false_iff_eq.mpr c8
              clear c8
              simp only [Option.some.injEq, Prod.mk.injEq] at H
              obtain ⟨rfl, rfl⟩ := H
              go_wp2_with (first | ((with_reducible refine gate_callee (f := 60) rfl ?_); refine goesL_ (some 17) rfl rfl Tryd.func60 (by kernel_rfl) rfl #[.string (a0.extract (x5_1 : Int).toNat a0.size)] rfl (by (try simp only [List.map_toArray, List.map_cons, List.map_nil]); first | done | rfl | (simp only [List.length_drop, List.length_take]; rfl)) ?_; (with_reducible refine (epitomeref01_first.calls k1 (a0.extract (x5_1 : Int).toNat a0.size) t104 t105 _ A7.out).mono ?_); rintro e w' ⟨rfl, ⟨nd, rfl⟩⟩; refine ⟨_, rfl, ?_⟩))
              go_ret2
              exact ⟨_, by first | rfl | (simp [errW_none, errW_some] <;> rfl) | (simp [*, errW_none, errW_some] <;> rfl), by first | exact Kd.R_nil _ _ _ _ _ | exact Kd.N_nil _ _ _ _ _ | exact Kd.V_nil _ _ _ _ _ | exact Kd.Q_nil _ _ _ _ _ | exact Kd.S_nil _ _ _ _ _, by repeat (first | (with_reducible first | exact HB.out | apply below_alloc | apply pw_below_drewN | apply below_drew1) | exact HB.out)⟩
            · rw [if_neg c8] at H
              have c8b0 : (t105 == 0) = false := beq_eq_false_iff_ne.mpr c8
              have c8b1 : (t105 != 0) = true := bne_iff_ne.mpr c8
              by_cases c9 : x4_1.length < 17592186044416
              · rw [if_pos c9] at H
                have LMc9 := Aside0.mk c9
                clear c9
                obtain ⟨y106, hy106⟩ : ∃ y_ : List Int, y_ = (x4_1 ++ [wrap64 (x5_1 + t105)]) := ⟨_, rfl⟩
                replace H : (epitomeref01_Starts.l0 k1 a0 y106 (wrap64 (x5_1 + t105))) = some (r1, r2) := by first | (rw [hy106]; with_reducible exact H) | (have H2_ := (Option.bind_some _ _).symm.trans H; rw [hy106]; with_reducible exact H2_) | (have H2_ := (Option.bind_some _ _).symm.trans H; with_reducible exact H2_) | with_reducible exact H | (rw [hy106]; exact H) | exact H
                have Ny106 := Aside0.mk hy106
                clear hy106
                have H' := Aside0.mk H
                clear H
                go_wp2_with (first | ((with_reducible refine gate_callee (f := 60) rfl ?_); refine goesL_ (some 17) rfl rfl Tryd.func60 (by kernel_rfl) rfl #[.string (a0.extract (x5_1 : Int).toNat a0.size)] rfl (by (try simp only [List.map_toArray, List.map_cons, List.map_nil]); first | done | rfl | (simp only [List.length_drop, List.length_take]; rfl)) ?_; (with_reducible refine (epitomeref01_first.calls k1 (a0.extract (x5_1 : Int).toNat a0.size) t104 t105 _ A7.out).mono ?_); rintro e w' ⟨rfl, ⟨nd, rfl⟩⟩; refine ⟨_, rfl, ?_⟩) | ((with_reducible refine gate_builtin (b := .append) (xs := #[.tmp 25, .tmp 27]) rfl ?_); at_builtin; refine Kd.R_append (Kd.int .i64) (w0 := w) w.heap.size rfl (.tmp 25) (.tmp 27) 76 3 (.int .i64 0) 8 rfl Tryd.underlying76 info3 rfl (by decide) (by omega) u4 x4_1 (wrap64 (x5_1 + t105)) [.int .i64 (wrap64 (x5_1 + t105))] (fun _ => True) (fun _ => False) rfl rfl ?aP (fun _ hk => hk.elim) ?aF ?aO ?aB ?aS ?aL ?_; (case aP => exact rfl); (case aB => exact (by repeat (first | (with_reducible first | exact HB.out | apply below_alloc | apply pw_below_drewN | apply below_drew1) | exact HB.out))); (case aF => exact (fun _ _ => trivial)); (case aO => exact (by (with_reducible repeat (first | apply Kd.R_alloc | apply Kd.R_drewN | apply Kd.R_drew)); exact HO_4.out)); (case aS => exact (below_size (by repeat (first | (with_reducible first | exact HB.out | apply below_alloc | apply pw_below_drewN | apply below_drew1) | exact HB.out)))); (case aL => have := LMc9.out; omega); intro v107 w10 ho hb hg hat; rw [← Ny106.out] at ho; have n0_ := Aside0.mk (hb); have n1_ := Aside0.mk (ho); clear HB; clear HO_4; have HB := n0_; have HO108 := n1_; clear n0_ n1_; clear ho hb hg hat))
                go_roundg k1
                case measure => have := HK1.out; omega
                case rel => exact ⟨(y106), (wrap64 (x5_1 + t105)), (by first | rfl | (simp; done) | (simp [*]; done)), H', ⟨by have := HK1.out; omega⟩, ⟨by (with_reducible repeat (first | apply Kd.R_alloc | apply Kd.R_drewN | apply Kd.R_drew)); exact HO108.out⟩, ⟨by repeat (first | (with_reducible first | exact HB.out | apply below_alloc | apply pw_below_drewN | apply below_drew1) | exact HB.out)⟩⟩
              · rw [if_neg c9] at H
                exact absurd H (by simp)
          · rw [if_neg c6] at H
            exact absurd H (by simp)
        · rw [if_neg c5] at H
          exact absurd H (by simp)
      · rw [if_neg c4] at H
        have c4b0 : decide (x5_1 < (a0.size : Int)) = false := decide_eq_false c4
        clear c4
        simp only [Option.some.injEq, Prod.mk.injEq] at H
        obtain ⟨rfl, rfl⟩ := H
        go_wp2
        go_ret2
        exact ⟨_, by first | rfl | (simp [errW_none, errW_some] <;> rfl) | (simp [*, errW_none, errW_some] <;> rfl), by (with_reducible repeat (first | apply Kd.R_alloc | apply Kd.R_drewN | apply Kd.R_drew)); exact HO_4.out, by repeat (first | (with_reducible first | exact HB.out | apply below_alloc | apply pw_below_drewN | apply below_drew1) | exact HB.out)⟩
end Go.Proofs.YtkgicpnnlkcaeaaDoor.F
end
section
namespace Go.Proofs.YtkgicpnnlkcaeaaDoor.F
open Go.RowKit Go.Proofs.YtkgicpnnlkcaeaaDoorW.PrintWords Go.Proofs.YtkgicpnnlkcaeaaDoorW.PrintLast Go.Proofs.YtkgicpnnlkcaeaaDoorW.PrintMore
attribute [local go_sem] max2_int min2_int max_two min_two max_three min_three max_four min_four cell_setCell_isSome
set_option linter.unusedVariables false
set_option linter.unusedSimpArgs false
def epitomeref01_Count.f (k : Nat) (a0 : ByteArray) : Option (Int) := (epitomeref01_Starts.f k a0).bind fun bt101 => (some (wrap64 ((bt101.1.length : Int) - 1)))
set_option maxHeartbeats 8000000 in
set_option maxRecDepth 100000 in
theorem epitomeref01_Count.calls (k : Nat) (a0 : ByteArray) (r : Int) (w : World) (h : epitomeref01_Count.f k a0 = some r) :
    Calls Tryd.prog 36 #[.string a0] w fun e w' => e = .returned (.int .i64 r) ∧ Below w.heap.size w w' := by
  have HB := Aside0.mk (Below.refl w.heap.size w)
  have H : ((epitomeref01_Starts.f k a0).bind fun bt101 => (some (wrap64 ((bt101.1.length : Int) - 1)))) = some r := h
  clear h
  replace H := Option.bind_eq_some_iff.mp H
  obtain ⟨⟨t101, t102⟩, A20, H⟩ := H
  replace H : (some (wrap64 ((t101.length : Int) - 1))) = some r := H
  have A2 := Aside0.mk A20
  clear A20
  obtain rfl := Option.some.inj H
  go_enter Tryd.func36, Tryd.ntmps36
  go_wp2_with (first | ((with_reducible refine gate_callee (f := 46) rfl ?_); refine goesL_ (some 7) rfl rfl Tryd.func46 (by kernel_rfl) rfl #[.string a0] rfl (by (try simp only [List.map_toArray, List.map_cons, List.map_nil]); first | done | rfl | (simp only [List.length_drop, List.length_take]; rfl)) ?_; (with_reducible refine (epitomeref01_Starts.calls k a0 t101 t102 _ A2.out).mono ?_); rintro e w3 ⟨v103, rfl, ho0, hb⟩; refine ⟨_, rfl, ?_⟩; have n0_ := Aside0.mk (Kd.R_lower ho0 (below_size (by repeat (first | (with_reducible first | exact HB.out | apply below_alloc | apply pw_below_drewN | apply below_drew1) | exact HB.out)))); have n1_ := Aside0.mk (below_step (by repeat (first | (with_reducible first | exact HB.out | apply below_alloc | apply pw_below_drewN | apply below_drew1) | exact HB.out)) hb); clear HB; have HO104 := n0_; have HB := n1_; clear n0_ n1_; (try clear hb); (try clear hb2); (try clear hk); (try clear hi); (try clear ho0); obtain ⟨Ao4, co4, eo4⟩ := Kd.R_slice HO104.out; subst eo4))
  go_ret
  exact ⟨by first | rfl | (simp [errW_none, errW_some] <;> rfl) | (simp [*, errW_none, errW_some] <;> rfl), by repeat (first | (with_reducible first | exact HB.out | apply below_alloc | apply pw_below_drewN | apply below_drew1) | exact HB.out)⟩
end Go.Proofs.YtkgicpnnlkcaeaaDoor.F
end
section
namespace Go.Proofs.YtkgicpnnlkcaeaaDoor.F
open Go.RowKit Go.Proofs.YtkgicpnnlkcaeaaDoorW.PrintWords Go.Proofs.YtkgicpnnlkcaeaaDoorW.PrintLast Go.Proofs.YtkgicpnnlkcaeaaDoorW.PrintMore
attribute [local go_sem] max2_int min2_int max_two min_two max_three min_three max_four min_four cell_setCell_isSome
set_option linter.unusedVariables false
set_option linter.unusedSimpArgs false
def normal_empty.f (a0_0 : Int) (a0_1 : Int) (a0_2 : ByteArray) : Option (Bool) := if a0_1 = 0 then (some (a0_2.toList == ([] : List UInt8))) else (some false)
set_option maxHeartbeats 8000000 in
set_option maxRecDepth 100000 in
theorem normal_empty.calls (a0_0 : Int) (a0_1 : Int) (a0_2 : ByteArray) (r : Bool) (w : World) (h : normal_empty.f a0_0 a0_1 a0_2 = some r) :
    Calls Tryd.prog 53 #[.agg #[.int .i64 a0_0, .int .i64 a0_1, .string a0_2]] w fun e w' => e = .returned (.bool r) ∧ Below w.heap.size w w' := by
  have hu33 := Tryd.underlying33
  have HB := Aside0.mk (Below.refl w.heap.size w)
  have H : (if a0_1 = 0 then (some (a0_2.toList == ([] : List UInt8))) else (some false)) = some r := h
  clear h
  by_cases c2 : a0_1 = 0
  · rw [if_pos c2] at H
    have c2b0 : (a0_1 == 0) = true := beq_iff_eq.mpr c2
    have c2b1 : (a0_1 != 0) = false := bne_eq_false_iff_eq.mpr c2
    clear c2
    obtain rfl := Option.some.inj H
    go_enter Tryd.func53, Tryd.ntmps53
    go_wp2_with (first | ((with_reducible refine gate_dst (N := 1) rfl ?_); refine box_event ?hg (N := 1) ?hd (cs := #[.int .i64 a0_0, .int .i64 a0_1, .string a0_2]) (t := 33) ?hr ?_; (case hd => rfl); (case hg => rfl); (case hr => first | (go_simp; done) | (go_simp; rfl)); intro gb101 hg w3 hbox hb; have n0_ := Aside0.mk (below_step (by repeat (first | (with_reducible first | exact HB.out | apply below_alloc | apply pw_below_drewN | apply below_drew1) | exact HB.out)) hb); have n1_ := Aside0.mk (hbox); have n2_ := Aside0.mk ((by rw [hg]; exact (below_size (by repeat (first | (with_reducible first | exact HB.out | apply below_alloc | apply pw_below_drewN | apply below_drew1) | exact HB.out))) : w.heap.size ≤ gb101)); have n3_ := Aside0.mk ((by rw [hg]; exact (below_size (by repeat (first | (with_reducible first | exact HB.out | apply below_alloc | apply pw_below_drewN | apply below_drew1) | exact HB.out))) : w.heap.size ≤ gb101)); clear HB; have HB := n0_; have BK101 := n1_; have GW101 := n2_; have GE101 := n3_; clear n0_ n1_ n2_ n3_; clear hb hbox hg; have hcz4_0 : w3.cell? ⟨gb101, 0, none⟩ = some (.int .i64 a0_0) := (blk_cell BK101.out 0).trans rfl; have hcz4_1 : w3.cell? ⟨gb101, 1, none⟩ = some (.int .i64 a0_1) := (blk_cell BK101.out 1).trans rfl; have hcz4_2 : w3.cell? ⟨gb101, 2, none⟩ = some (.string a0_2) := (blk_cell BK101.out 2).trans rfl; have hfz4_0 := blk_frozen BK101.out 0; have hfz4_1 := blk_frozen BK101.out 1; have hfz4_2 := blk_frozen BK101.out 2))
    go_ret
    exact ⟨by first | rfl | (simp [errW_none, errW_some] <;> rfl) | (simp [*, errW_none, errW_some] <;> rfl), by repeat (first | (with_reducible first | exact HB.out | apply below_alloc | apply pw_below_drewN | apply below_drew1 | refine below_set ?_ GE101.out) | exact HB.out)⟩
  · rw [if_neg c2] at H
    have c2b0 : (a0_1 == 0) = false := beq_eq_false_iff_ne.mpr c2
    have c2b1 : (a0_1 != 0) = true := bne_iff_ne.mpr c2
    obtain rfl := Option.some.inj H
    go_enter Tryd.func53, Tryd.ntmps53
    go_wp2_with (first | ((with_reducible refine gate_dst (N := 1) rfl ?_); refine box_event ?hg (N := 1) ?hd (cs := #[.int .i64 a0_0, .int .i64 a0_1, .string a0_2]) (t := 33) ?hr ?_; (case hd => rfl); (case hg => rfl); (case hr => first | (go_simp; done) | (go_simp; rfl)); intro gb101 hg w5 hbox hb; have n0_ := Aside0.mk (below_step (by repeat (first | (with_reducible first | exact HB.out | apply below_alloc | apply pw_below_drewN | apply below_drew1) | exact HB.out)) hb); have n1_ := Aside0.mk (hbox); have n2_ := Aside0.mk ((by rw [hg]; exact (below_size (by repeat (first | (with_reducible first | exact HB.out | apply below_alloc | apply pw_below_drewN | apply below_drew1) | exact HB.out))) : w.heap.size ≤ gb101)); have n3_ := Aside0.mk ((by rw [hg]; exact (below_size (by repeat (first | (with_reducible first | exact HB.out | apply below_alloc | apply pw_below_drewN | apply below_drew1) | exact HB.out))) : w.heap.size ≤ gb101)); clear HB; have HB := n0_; have BK101 := n1_; have GW101 := n2_; have GE101 := n3_; clear n0_ n1_ n2_ n3_; clear hb hbox hg; have hcz6_0 : w5.cell? ⟨gb101, 0, none⟩ = some (.int .i64 a0_0) := (blk_cell BK101.out 0).trans rfl; have hcz6_1 : w5.cell? ⟨gb101, 1, none⟩ = some (.int .i64 a0_1) := (blk_cell BK101.out 1).trans rfl; have hcz6_2 : w5.cell? ⟨gb101, 2, none⟩ = some (.string a0_2) := (blk_cell BK101.out 2).trans rfl; have hfz6_0 := blk_frozen BK101.out 0; have hfz6_1 := blk_frozen BK101.out 1; have hfz6_2 := blk_frozen BK101.out 2))
    go_ret
    exact ⟨by first | rfl | (simp [errW_none, errW_some] <;> rfl) | (simp [*, errW_none, errW_some] <;> rfl), by repeat (first | (with_reducible first | exact HB.out | apply below_alloc | apply pw_below_drewN | apply below_drew1 | refine below_set ?_ GE101.out) | exact HB.out)⟩
end Go.Proofs.YtkgicpnnlkcaeaaDoor.F
end
