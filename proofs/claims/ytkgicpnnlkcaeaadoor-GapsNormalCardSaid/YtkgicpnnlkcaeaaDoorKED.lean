import Derived.Test.YtkgicpnnlkcaeaaDoorKEC
import Derived.Below
import Derived.Deep.Draws
import Derived.Deep.AppendLies
import Derived.Maps.AppendAt
import Derived.OwnWalk
import Derived.Laws.BytesArg
import Derived.Laws.MakeOwn
import Derived.Laws.OwnMore
import Derived.Deep.OwnRows
import Derived.Tactics
import Derived.Lib.ConvBytes
import Derived.Laws.Slices
import Derived.WalkKit
import Derived.KernelRfl
import Derived.RowKit3
import Derived.Deep.LoopGhost
import Derived.Deep.QuietTactic
import Derived.BigQuiet
import Derived.WideLaws
import Derived.Deep.DeepCutAuto
import Derived.Deep.CutBlock
import Derived.Deep.RegionHeld3
import Derived.Laws.Rows
import Derived.Lib.AppendStr
import Derived.ArgAppend
import Derived.Laws.IdiomCopy
import Derived.RowKit
import Derived.OrdersHeld
import Derived.Laws.BitsLemmas
import Derived.Laws.StructEq
import Derived.Test.YtkgicpnnlkcaeaaDoorProg
import Derived.Handy
import Derived.Shelf.Unicode.DecodeSlow
import Derived.Ground.NamesProg
import Derived.Shelf.Unicode.ValidAny
import Derived.Maps.OwnOps
import Derived.Maps.Views
import Derived.ProofKit
import Derived.OpenShut
import Derived.ShutString
import Derived.ChangeOld
import Derived.SizedLaws
import Derived.Laws.RangeString
import Derived.Laws.RangeAny
import Derived.Lib.RuneCount
import Derived.Laws.IdiomStrings
import Derived.Laws.Cover4
import Derived.Lib.ValidLaws
import Derived.Test.YtkgicpnnlkcaeaaDoorRows
import Derived.Lib.LaidU8T
import Derived.Lib.LaidIn
import Derived.LaidLaws
section
namespace Go.Proofs.YtkgicpnnlkcaeaaDoor.F
open Go.RowKit Go.Proofs.YtkgicpnnlkcaeaaDoorW.PrintWords Go.Proofs.YtkgicpnnlkcaeaaDoorW.PrintLast Go.Proofs.YtkgicpnnlkcaeaaDoorW.PrintMore
attribute [local go_sem] max2_int min2_int max_two min_two max_three min_three max_four min_four cell_setCell_isSome
set_option linter.unusedVariables false
set_option linter.unusedSimpArgs false
def span_Out.f (a0_0 : Int) (a0_1 : Int) (a0_2 : ByteArray) : Option (Int) := (span_of.f a0_0 a0_1 a0_2).bind fun bt102 => (if bt102.2.1 = true then (some a0_1) else (if a0_0 = 2 then ((points_Count.f a0_2).bind fun t106 => (some (mx t106 0))) else (some 0)))
set_option maxHeartbeats 8000000 in
set_option maxRecDepth 100000 in
theorem span_Out.calls (a0_0 : Int) (a0_1 : Int) (a0_2 : ByteArray) (r : Int) (w : World) (hG : Glob w) (h : span_Out.f a0_0 a0_1 a0_2 = some r) :
    Calls Tryd.prog 54 #[.agg #[.int .i64 a0_0, .int .i64 a0_1, .string a0_2]] w fun e w' => e = .returned (.int .i64 r) ∧ Below w.heap.size w w' := by
  have hu33 := Tryd.underlying33
  have hu90 := Tryd.underlying90
  have HG := Aside0.mk hG
  clear hG
  have HB := Aside0.mk (Below.refl w.heap.size w)
  have H : ((span_of.f a0_0 a0_1 a0_2).bind fun bt102 => (if bt102.2.1 = true then (some a0_1) else (if a0_0 = 2 then ((points_Count.f a0_2).bind fun t106 => (some (mx t106 0))) else (some 0)))) = some r := h
  clear h
  replace H := Option.bind_eq_some_iff.mp H
  obtain ⟨⟨t102, t103, t104⟩, A20, H⟩ := H
  replace H : (if t103 = true then (some a0_1) else (if a0_0 = 2 then ((points_Count.f a0_2).bind fun t106 => (some (mx t106 0))) else (some 0))) = some r := H
  have A2 := Aside0.mk A20
  clear A20
  by_cases c3 : t103 = true
  · subst c3
    have H1 : (some a0_1) = some r := by rw [if_pos rfl] at H; exact H
    clear H
    have H := H1
    clear H1
    obtain rfl := Option.some.inj H
    go_enter Tryd.func54, Tryd.ntmps54
    go_wp2_with (first | ((with_reducible refine gate_dst (N := 1) rfl ?_); refine box_event ?hg (N := 1) ?hd (cs := #[.int .i64 a0_0, .int .i64 a0_1, .string a0_2]) (t := 33) ?hr ?_; (case hd => rfl); (case hg => rfl); (case hr => first | (go_simp; done) | (go_simp; rfl)); intro gb101 hg w4 hbox hb; have n0_ := Aside0.mk (below_step (by repeat (first | (with_reducible first | exact HB.out | apply below_alloc | apply pw_below_drewN | apply below_drew1) | exact HB.out)) hb); have n1_ := Aside0.mk (hbox); have n2_ := Aside0.mk ((by rw [hg]; exact (below_size (by repeat (first | (with_reducible first | exact HB.out | apply below_alloc | apply pw_below_drewN | apply below_drew1) | exact HB.out))) : w.heap.size ≤ gb101)); have n3_ := Aside0.mk ((by rw [hg]; exact (below_size (by repeat (first | (with_reducible first | exact HB.out | apply below_alloc | apply pw_below_drewN | apply below_drew1) | exact HB.out))) : w.heap.size ≤ gb101)); clear HB; have HB := n0_; have BK101 := n1_; have GW101 := n2_; have GE101 := n3_; clear n0_ n1_ n2_ n3_; clear hb hbox hg; have hcz5_0 : w4.cell? ⟨gb101, 0, none⟩ = some (.int .i64 a0_0) := (blk_cell BK101.out 0).trans rfl; have hcz5_1 : w4.cell? ⟨gb101, 1, none⟩ = some (.int .i64 a0_1) := (blk_cell BK101.out 1).trans rfl; have hcz5_2 : w4.cell? ⟨gb101, 2, none⟩ = some (.string a0_2) := (blk_cell BK101.out 2).trans rfl; have hfz5_0 := blk_frozen BK101.out 0; have hfz5_1 := blk_frozen BK101.out 1; have hfz5_2 := blk_frozen BK101.out 2) | ((with_reducible refine gate_callee (f := 58) rfl ?_); refine goesL_ (some 7) rfl rfl Tryd.func58 (by kernel_rfl) rfl #[.agg #[.int .i64 a0_0, .int .i64 a0_1, .string a0_2]] rfl (by (try simp only [List.map_toArray, List.map_cons, List.map_nil]); first | done | rfl | (simp only [List.length_drop, List.length_take]; rfl)) ?_; (with_reducible refine (span_of.calls a0_0 a0_1 a0_2 t102 true t104 _ ?side1 A2.out).mono ?_); (case side1 => first | (with_reducible exact HG.out) | exact Glob.below HG.out (by repeat (first | (with_reducible first | exact HB.out | apply below_alloc | apply pw_below_drewN | apply below_drew1 | refine below_set ?_ GE101.out) | exact HB.out)) | exact Glob.drawn HG.out (by repeat (first | exact Drawn0.refl _ | apply Drawn0.step))); rintro e w6 ⟨rfl, hb⟩; refine ⟨_, rfl, ?_⟩; have n0_ := Aside0.mk (blk_below (g := gb101) (o := .cells #[.int .i64 a0_0, .int .i64 a0_1, .string a0_2] 33 (0, 0)) (by (with_reducible repeat (first | refine blk_drewN ?_ _ | refine blk_drew ?_ | refine blk_alloc ?_ _)); exact BK101.out) hb); have n1_ := Aside0.mk (below_step (by repeat (first | (with_reducible first | exact HB.out | apply below_alloc | apply pw_below_drewN | apply below_drew1 | refine below_set ?_ GE101.out) | exact HB.out)) hb); clear BK101; clear HB; have BK101 := n0_; have HB := n1_; clear n0_ n1_; (try clear hb); (try clear hb2); (try clear hk); (try clear hi)) | ((with_reducible refine gate_dst (N := 3) rfl ?_); refine box_event ?hg (N := 3) ?hd (cs := #[.bool false, .bool false]) (t := 90) ?hr ?_; (case hd => rfl); (case hg => rfl); (case hr => first | (go_simp; done) | (go_simp; rfl)); intro gb105 hg w7 hbox hb; have n0_ := Aside0.mk (blk_below (g := gb101) (o := .cells #[.int .i64 a0_0, .int .i64 a0_1, .string a0_2] 33 (0, 0)) (by (with_reducible repeat (first | refine blk_drewN ?_ _ | refine blk_drew ?_ | refine blk_alloc ?_ _)); exact BK101.out) hb); have n1_ := Aside0.mk (below_step (by repeat (first | (with_reducible first | exact HB.out | apply below_alloc | apply pw_below_drewN | apply below_drew1 | refine below_set ?_ GE101.out) | exact HB.out)) hb); have n2_ := Aside0.mk (hbox); have n3_ := Aside0.mk ((by rw [hg]; exact (below_size (by repeat (first | (with_reducible first | exact HB.out | apply below_alloc | apply pw_below_drewN | apply below_drew1 | refine below_set ?_ GE101.out) | exact HB.out))) : w.heap.size ≤ gb105)); have n4_ := Aside0.mk ((by rw [hg]; exact (below_size (by repeat (first | (with_reducible first | exact HB.out | apply below_alloc | apply pw_below_drewN | apply below_drew1 | refine below_set ?_ GE101.out) | exact HB.out))) : w.heap.size ≤ gb105)); have n5_ := Aside0.mk ((by rw [hg]; exact Nat.ne_of_lt (blk_lt (g := gb101) (o := .cells #[.int .i64 a0_0, .int .i64 a0_1, .string a0_2] 33 (0, 0)) (by (with_reducible repeat (first | refine blk_drewN ?_ _ | refine blk_drew ?_ | refine blk_alloc ?_ _)); exact BK101.out)) : gb101 ≠ gb105)); have n6_ := Aside0.mk ((by rw [hg]; exact Nat.ne_of_gt (blk_lt (g := gb101) (o := .cells #[.int .i64 a0_0, .int .i64 a0_1, .string a0_2] 33 (0, 0)) (by (with_reducible repeat (first | refine blk_drewN ?_ _ | refine blk_drew ?_ | refine blk_alloc ?_ _)); exact BK101.out)) : gb105 ≠ gb101)); clear BK101; clear HB; have BK101 := n0_; have HB := n1_; have BK105 := n2_; have GW105 := n3_; have GE105 := n4_; have NB101_105 := n5_; have NB105_101 := n6_; clear n0_ n1_ n2_ n3_ n4_ n5_ n6_; clear hb hbox hg; have hnb8 := NB105_101.out; have hnc8 := NB101_105.out; have hcz9_0 : w7.cell? ⟨gb105, 0, none⟩ = some (.bool false) := (blk_cell BK105.out 0).trans rfl; have hcz9_1 : w7.cell? ⟨gb105, 1, none⟩ = some (.bool false) := (blk_cell BK105.out 1).trans rfl; have hfz9_0 := blk_frozen BK105.out 0; have hfz9_1 := blk_frozen BK105.out 1; have hcz10_0 : w7.cell? ⟨gb101, 0, none⟩ = some (.int .i64 a0_0) := (blk_cell BK101.out 0).trans rfl; have hcz10_1 : w7.cell? ⟨gb101, 1, none⟩ = some (.int .i64 a0_1) := (blk_cell BK101.out 1).trans rfl; have hcz10_2 : w7.cell? ⟨gb101, 2, none⟩ = some (.string a0_2) := (blk_cell BK101.out 2).trans rfl; have hfz10_0 := blk_frozen BK101.out 0; have hfz10_1 := blk_frozen BK101.out 1; have hfz10_2 := blk_frozen BK101.out 2))
    go_ret
    exact ⟨by first | rfl | (simp [errW_none, errW_some] <;> rfl) | (simp [*, errW_none, errW_some] <;> rfl), by repeat (first | (with_reducible first | exact HB.out | apply below_alloc | apply pw_below_drewN | apply below_drew1 | refine below_set ?_ GE101.out | refine below_set ?_ GE105.out) | exact HB.out)⟩
  · replace c3 := Bool.eq_false_iff.mpr c3
    subst c3
    have H1 : (if a0_0 = 2 then ((points_Count.f a0_2).bind fun t106 => (some (mx t106 0))) else (some 0)) = some r := by rw [if_neg (show ¬ (false = true) by decide)] at H; exact H
    clear H
    have H := H1
    clear H1
    by_cases c11 : a0_0 = 2
    · rw [if_pos c11] at H
      have c11b0 : (a0_0 == 2) = true := beq_iff_eq.mpr c11
      have c11b1 : (a0_0 != 2) = false := bne_eq_false_iff_eq.mpr c11
      clear c11
      replace H := Option.bind_eq_some_iff.mp H
      obtain ⟨t106, A120, H⟩ := H
      replace H : (some (mx t106 0)) = some r := H
      have A12 := Aside0.mk A120
      clear A120
      obtain ⟨ji13, hji13⟩ : ∃ j_ : Int, (mx t106 0) = j_ := ⟨_, rfl⟩
      replace H : (some ji13) = some r := by first | (rw [hji13] at H; exact H) | (simp only [hji13] at H ⊢; exact H)
      (try rw [hji13] at A2)
      (try rw [hji13] at A12)
      (try (have hji13l : 0 ≤ ji13 := by (rw [← hji13]; unfold mx; (repeat' split) <;> omega)))
      (try (have hji13m : 0 ≤ ji13 := by omega))
      have hji13_ : (if t106 < 0 then 0 else t106) = ji13 := hji13
      obtain rfl := Option.some.inj H
      go_enter Tryd.func54, Tryd.ntmps54
      go_wp2_with (first | ((with_reducible refine gate_dst (N := 1) rfl ?_); refine box_event ?hg (N := 1) ?hd (cs := #[.int .i64 a0_0, .int .i64 a0_1, .string a0_2]) (t := 33) ?hr ?_; (case hd => rfl); (case hg => rfl); (case hr => first | (go_simp; done) | (go_simp; rfl)); intro gb101 hg w14 hbox hb; have n0_ := Aside0.mk (below_step (by repeat (first | (with_reducible first | exact HB.out | apply below_alloc | apply pw_below_drewN | apply below_drew1) | exact HB.out)) hb); have n1_ := Aside0.mk (hbox); have n2_ := Aside0.mk ((by rw [hg]; exact (below_size (by repeat (first | (with_reducible first | exact HB.out | apply below_alloc | apply pw_below_drewN | apply below_drew1) | exact HB.out))) : w.heap.size ≤ gb101)); have n3_ := Aside0.mk ((by rw [hg]; exact (below_size (by repeat (first | (with_reducible first | exact HB.out | apply below_alloc | apply pw_below_drewN | apply below_drew1) | exact HB.out))) : w.heap.size ≤ gb101)); clear HB; have HB := n0_; have BK101 := n1_; have GW101 := n2_; have GE101 := n3_; clear n0_ n1_ n2_ n3_; clear hb hbox hg; have hcz15_0 : w14.cell? ⟨gb101, 0, none⟩ = some (.int .i64 a0_0) := (blk_cell BK101.out 0).trans rfl; have hcz15_1 : w14.cell? ⟨gb101, 1, none⟩ = some (.int .i64 a0_1) := (blk_cell BK101.out 1).trans rfl; have hcz15_2 : w14.cell? ⟨gb101, 2, none⟩ = some (.string a0_2) := (blk_cell BK101.out 2).trans rfl; have hfz15_0 := blk_frozen BK101.out 0; have hfz15_1 := blk_frozen BK101.out 1; have hfz15_2 := blk_frozen BK101.out 2) | ((with_reducible refine gate_callee (f := 58) rfl ?_); refine goesL_ (some 7) rfl rfl Tryd.func58 (by kernel_rfl) rfl #[.agg #[.int .i64 a0_0, .int .i64 a0_1, .string a0_2]] rfl (by (try simp only [List.map_toArray, List.map_cons, List.map_nil]); first | done | rfl | (simp only [List.length_drop, List.length_take]; rfl)) ?_; (with_reducible refine (span_of.calls a0_0 a0_1 a0_2 t102 false t104 _ ?side1 A2.out).mono ?_); (case side1 => first | (with_reducible exact HG.out) | exact Glob.below HG.out (by repeat (first | (with_reducible first | exact HB.out | apply below_alloc | apply pw_below_drewN | apply below_drew1 | refine below_set ?_ GE101.out) | exact HB.out)) | exact Glob.drawn HG.out (by repeat (first | exact Drawn0.refl _ | apply Drawn0.step))); rintro e w16 ⟨rfl, hb⟩; refine ⟨_, rfl, ?_⟩; have n0_ := Aside0.mk (blk_below (g := gb101) (o := .cells #[.int .i64 a0_0, .int .i64 a0_1, .string a0_2] 33 (0, 0)) (by (with_reducible repeat (first | refine blk_drewN ?_ _ | refine blk_drew ?_ | refine blk_alloc ?_ _)); exact BK101.out) hb); have n1_ := Aside0.mk (below_step (by repeat (first | (with_reducible first | exact HB.out | apply below_alloc | apply pw_below_drewN | apply below_drew1 | refine below_set ?_ GE101.out) | exact HB.out)) hb); clear BK101; clear HB; have BK101 := n0_; have HB := n1_; clear n0_ n1_; (try clear hb); (try clear hb2); (try clear hk); (try clear hi)) | ((with_reducible refine gate_dst (N := 3) rfl ?_); refine box_event ?hg (N := 3) ?hd (cs := #[.bool false, .bool false]) (t := 90) ?hr ?_; (case hd => rfl); (case hg => rfl); (case hr => first | (go_simp; done) | (go_simp; rfl)); intro gb105 hg w17 hbox hb; have n0_ := Aside0.mk (blk_below (g := gb101) (o := .cells #[.int .i64 a0_0, .int .i64 a0_1, .string a0_2] 33 (0, 0)) (by (with_reducible repeat (first | refine blk_drewN ?_ _ | refine blk_drew ?_ | refine blk_alloc ?_ _)); exact BK101.out) hb); have n1_ := Aside0.mk (below_step (by repeat (first | (with_reducible first | exact HB.out | apply below_alloc | apply pw_below_drewN | apply below_drew1 | refine below_set ?_ GE101.out) | exact HB.out)) hb); have n2_ := Aside0.mk (hbox); have n3_ := Aside0.mk ((by rw [hg]; exact (below_size (by repeat (first | (with_reducible first | exact HB.out | apply below_alloc | apply pw_below_drewN | apply below_drew1 | refine below_set ?_ GE101.out) | exact HB.out))) : w.heap.size ≤ gb105)); have n4_ := Aside0.mk ((by rw [hg]; exact (below_size (by repeat (first | (with_reducible first | exact HB.out | apply below_alloc | apply pw_below_drewN | apply below_drew1 | refine below_set ?_ GE101.out) | exact HB.out))) : w.heap.size ≤ gb105)); have n5_ := Aside0.mk ((by rw [hg]; exact Nat.ne_of_lt (blk_lt (g := gb101) (o := .cells #[.int .i64 a0_0, .int .i64 a0_1, .string a0_2] 33 (0, 0)) (by (with_reducible repeat (first | refine blk_drewN ?_ _ | refine blk_drew ?_ | refine blk_alloc ?_ _)); exact BK101.out)) : gb101 ≠ gb105)); have n6_ := Aside0.mk ((by rw [hg]; exact Nat.ne_of_gt (blk_lt (g := gb101) (o := .cells #[.int .i64 a0_0, .int .i64 a0_1, .string a0_2] 33 (0, 0)) (by (with_reducible repeat (first | refine blk_drewN ?_ _ | refine blk_drew ?_ | refine blk_alloc ?_ _)); exact BK101.out)) : gb105 ≠ gb101)); clear BK101; clear HB; have BK101 := n0_; have HB := n1_; have BK105 := n2_; have GW105 := n3_; have GE105 := n4_; have NB101_105 := n5_; have NB105_101 := n6_; clear n0_ n1_ n2_ n3_ n4_ n5_ n6_; clear hb hbox hg; have hnb18 := NB105_101.out; have hnc18 := NB101_105.out; have hcz19_0 : w17.cell? ⟨gb105, 0, none⟩ = some (.bool false) := (blk_cell BK105.out 0).trans rfl; have hcz19_1 : w17.cell? ⟨gb105, 1, none⟩ = some (.bool false) := (blk_cell BK105.out 1).trans rfl; have hfz19_0 := blk_frozen BK105.out 0; have hfz19_1 := blk_frozen BK105.out 1; have hcz20_0 : w17.cell? ⟨gb101, 0, none⟩ = some (.int .i64 a0_0) := (blk_cell BK101.out 0).trans rfl; have hcz20_1 : w17.cell? ⟨gb101, 1, none⟩ = some (.int .i64 a0_1) := (blk_cell BK101.out 1).trans rfl; have hcz20_2 : w17.cell? ⟨gb101, 2, none⟩ = some (.string a0_2) := (blk_cell BK101.out 2).trans rfl; have hfz20_0 := blk_frozen BK101.out 0; have hfz20_1 := blk_frozen BK101.out 1; have hfz20_2 := blk_frozen BK101.out 2) | ((with_reducible refine gate_callee (f := 25) rfl ?_); refine goesL_ (some 21) rfl rfl Tryd.func25 (by kernel_rfl) rfl #[.string a0_2] rfl (by (try simp only [List.map_toArray, List.map_cons, List.map_nil]); first | done | rfl | (simp only [List.length_drop, List.length_take]; rfl)) ?_; (with_reducible refine (points_Count.calls a0_2 t106 _ ?side1 A12.out).mono ?_); (case side1 => first | (with_reducible exact HG.out) | exact Glob.below HG.out (by repeat (first | (with_reducible first | exact HB.out | apply below_alloc | apply pw_below_drewN | apply below_drew1 | refine below_set ?_ GE101.out | refine below_set ?_ GE105.out) | exact HB.out)) | exact Glob.drawn HG.out (by repeat (first | exact Drawn0.refl _ | apply Drawn0.step))); rintro e w21 ⟨rfl, hb⟩; refine ⟨_, rfl, ?_⟩; have n0_ := Aside0.mk (blk_below (g := gb101) (o := .cells #[.int .i64 a0_0, .int .i64 a0_1, .string a0_2] 33 (0, 0)) (by (with_reducible repeat (first | refine blk_drewN ?_ _ | refine blk_drew ?_ | refine blk_alloc ?_ _)); refine blk_far ?_ NB101_105.out _; (with_reducible repeat (first | refine blk_drewN ?_ _ | refine blk_drew ?_ | refine blk_alloc ?_ _)); refine blk_far ?_ NB101_105.out _; (with_reducible repeat (first | refine blk_drewN ?_ _ | refine blk_drew ?_ | refine blk_alloc ?_ _)); exact BK101.out) hb); have n1_ := Aside0.mk (blk_below (g := gb105) (o := .cells #[.bool t102, .bool false] 90 (0, 0)) (by (with_reducible repeat (first | refine blk_drewN ?_ _ | refine blk_drew ?_ | refine blk_alloc ?_ _)); refine blk_put (cs := #[.bool t102, .bool false]) ?_ 1 _ rfl; (with_reducible repeat (first | refine blk_drewN ?_ _ | refine blk_drew ?_ | refine blk_alloc ?_ _)); refine blk_put (cs := #[.bool false, .bool false]) ?_ 0 _ rfl; (with_reducible repeat (first | refine blk_drewN ?_ _ | refine blk_drew ?_ | refine blk_alloc ?_ _)); exact BK105.out) hb); have n2_ := Aside0.mk (below_step (by repeat (first | (with_reducible first | exact HB.out | apply below_alloc | apply pw_below_drewN | apply below_drew1 | refine below_set ?_ GE101.out | refine below_set ?_ GE105.out) | exact HB.out)) hb); clear BK101; clear BK105; clear HB; have BK101 := n0_; have BK105 := n1_; have HB := n2_; clear n0_ n1_ n2_; (try clear hb); (try clear hb2); (try clear hk); (try clear hi)))
      go_ret
      exact ⟨by first | rfl | (simp [errW_none, errW_some] <;> rfl) | (simp only [← hji13]; first | rfl | (simp [errW_none, errW_some] <;> rfl)) | (simp [*, errW_none, errW_some] <;> rfl), by repeat (first | (with_reducible first | exact HB.out | apply below_alloc | apply pw_below_drewN | apply below_drew1 | refine below_set ?_ GE101.out | refine below_set ?_ GE105.out) | exact HB.out)⟩
    · rw [if_neg c11] at H
      have c11b0 : (a0_0 == 2) = false := beq_eq_false_iff_ne.mpr c11
      have c11b1 : (a0_0 != 2) = true := bne_iff_ne.mpr c11
      obtain rfl := Option.some.inj H
      go_enter Tryd.func54, Tryd.ntmps54
      go_wp2_with (first | ((with_reducible refine gate_dst (N := 1) rfl ?_); refine box_event ?hg (N := 1) ?hd (cs := #[.int .i64 a0_0, .int .i64 a0_1, .string a0_2]) (t := 33) ?hr ?_; (case hd => rfl); (case hg => rfl); (case hr => first | (go_simp; done) | (go_simp; rfl)); intro gb101 hg w22 hbox hb; have n0_ := Aside0.mk (below_step (by repeat (first | (with_reducible first | exact HB.out | apply below_alloc | apply pw_below_drewN | apply below_drew1) | exact HB.out)) hb); have n1_ := Aside0.mk (hbox); have n2_ := Aside0.mk ((by rw [hg]; exact (below_size (by repeat (first | (with_reducible first | exact HB.out | apply below_alloc | apply pw_below_drewN | apply below_drew1) | exact HB.out))) : w.heap.size ≤ gb101)); have n3_ := Aside0.mk ((by rw [hg]; exact (below_size (by repeat (first | (with_reducible first | exact HB.out | apply below_alloc | apply pw_below_drewN | apply below_drew1) | exact HB.out))) : w.heap.size ≤ gb101)); clear HB; have HB := n0_; have BK101 := n1_; have GW101 := n2_; have GE101 := n3_; clear n0_ n1_ n2_ n3_; clear hb hbox hg; have hcz23_0 : w22.cell? ⟨gb101, 0, none⟩ = some (.int .i64 a0_0) := (blk_cell BK101.out 0).trans rfl; have hcz23_1 : w22.cell? ⟨gb101, 1, none⟩ = some (.int .i64 a0_1) := (blk_cell BK101.out 1).trans rfl; have hcz23_2 : w22.cell? ⟨gb101, 2, none⟩ = some (.string a0_2) := (blk_cell BK101.out 2).trans rfl; have hfz23_0 := blk_frozen BK101.out 0; have hfz23_1 := blk_frozen BK101.out 1; have hfz23_2 := blk_frozen BK101.out 2) | ((with_reducible refine gate_callee (f := 58) rfl ?_); refine goesL_ (some 7) rfl rfl Tryd.func58 (by kernel_rfl) rfl #[.agg #[.int .i64 a0_0, .int .i64 a0_1, .string a0_2]] rfl (by (try simp only [List.map_toArray, List.map_cons, List.map_nil]); first | done | rfl | (simp only [List.length_drop, List.length_take]; rfl)) ?_; (with_reducible refine (span_of.calls a0_0 a0_1 a0_2 t102 false t104 _ ?side1 A2.out).mono ?_); (case side1 => first | (with_reducible exact HG.out) | exact Glob.below HG.out (by repeat (first | (with_reducible first | exact HB.out | apply below_alloc | apply pw_below_drewN | apply below_drew1 | refine below_set ?_ GE101.out) | exact HB.out)) | exact Glob.drawn HG.out (by repeat (first | exact Drawn0.refl _ | apply Drawn0.step))); rintro e w24 ⟨rfl, hb⟩; refine ⟨_, rfl, ?_⟩; have n0_ := Aside0.mk (blk_below (g := gb101) (o := .cells #[.int .i64 a0_0, .int .i64 a0_1, .string a0_2] 33 (0, 0)) (by (with_reducible repeat (first | refine blk_drewN ?_ _ | refine blk_drew ?_ | refine blk_alloc ?_ _)); exact BK101.out) hb); have n1_ := Aside0.mk (below_step (by repeat (first | (with_reducible first | exact HB.out | apply below_alloc | apply pw_below_drewN | apply below_drew1 | refine below_set ?_ GE101.out) | exact HB.out)) hb); clear BK101; clear HB; have BK101 := n0_; have HB := n1_; clear n0_ n1_; (try clear hb); (try clear hb2); (try clear hk); (try clear hi)) | ((with_reducible refine gate_dst (N := 3) rfl ?_); refine box_event ?hg (N := 3) ?hd (cs := #[.bool false, .bool false]) (t := 90) ?hr ?_; (case hd => rfl); (case hg => rfl); (case hr => first | (go_simp; done) | (go_simp; rfl)); intro gb105 hg w25 hbox hb; have n0_ := Aside0.mk (blk_below (g := gb101) (o := .cells #[.int .i64 a0_0, .int .i64 a0_1, .string a0_2] 33 (0, 0)) (by (with_reducible repeat (first | refine blk_drewN ?_ _ | refine blk_drew ?_ | refine blk_alloc ?_ _)); exact BK101.out) hb); have n1_ := Aside0.mk (below_step (by repeat (first | (with_reducible first | exact HB.out | apply below_alloc | apply pw_below_drewN | apply below_drew1 | refine below_set ?_ GE101.out) | exact HB.out)) hb); have n2_ := Aside0.mk (hbox); have n3_ := Aside0.mk ((by rw [hg]; exact (below_size (by repeat (first | (with_reducible first | exact HB.out | apply below_alloc | apply pw_below_drewN | apply below_drew1 | refine below_set ?_ GE101.out) | exact HB.out))) : w.heap.size ≤ gb105)); have n4_ := Aside0.mk ((by rw [hg]; exact (below_size (by repeat (first | (with_reducible first | exact HB.out | apply below_alloc | apply pw_below_drewN | apply below_drew1 | refine below_set ?_ GE101.out) | exact HB.out))) : w.heap.size ≤ gb105)); have n5_ := Aside0.mk ((by rw [hg]; exact Nat.ne_of_lt (blk_lt (g := gb101) (o := .cells #[.int .i64 a0_0, .int .i64 a0_1, .string a0_2] 33 (0, 0)) (by (with_reducible repeat (first | refine blk_drewN ?_ _ | refine blk_drew ?_ | refine blk_alloc ?_ _)); exact BK101.out)) : gb101 ≠ gb105)); have n6_ := Aside0.mk ((by rw [hg]; exact Nat.ne_of_gt (blk_lt (g := gb101) (o := .cells #[.int .i64 a0_0, .int .i64 a0_1, .string a0_2] 33 (0, 0)) (by (with_reducible repeat (first | refine blk_drewN ?_ _ | refine blk_drew ?_ | refine blk_alloc ?_ _)); exact BK101.out)) : gb105 ≠ gb101)); clear BK101; clear HB; have BK101 := n0_; have HB := n1_; have BK105 := n2_; have GW105 := n3_; have GE105 := n4_; have NB101_105 := n5_; have NB105_101 := n6_; clear n0_ n1_ n2_ n3_ n4_ n5_ n6_; clear hb hbox hg; have hnb26 := NB105_101.out; have hnc26 := NB101_105.out; have hcz27_0 : w25.cell? ⟨gb105, 0, none⟩ = some (.bool false) := (blk_cell BK105.out 0).trans rfl; have hcz27_1 : w25.cell? ⟨gb105, 1, none⟩ = some (.bool false) := (blk_cell BK105.out 1).trans rfl; have hfz27_0 := blk_frozen BK105.out 0; have hfz27_1 := blk_frozen BK105.out 1; have hcz28_0 : w25.cell? ⟨gb101, 0, none⟩ = some (.int .i64 a0_0) := (blk_cell BK101.out 0).trans rfl; have hcz28_1 : w25.cell? ⟨gb101, 1, none⟩ = some (.int .i64 a0_1) := (blk_cell BK101.out 1).trans rfl; have hcz28_2 : w25.cell? ⟨gb101, 2, none⟩ = some (.string a0_2) := (blk_cell BK101.out 2).trans rfl; have hfz28_0 := blk_frozen BK101.out 0; have hfz28_1 := blk_frozen BK101.out 1; have hfz28_2 := blk_frozen BK101.out 2))
      go_ret
      exact ⟨by first | rfl | (simp [errW_none, errW_some] <;> rfl) | (simp [*, errW_none, errW_some] <;> rfl), by repeat (first | (with_reducible first | exact HB.out | apply below_alloc | apply pw_below_drewN | apply below_drew1 | refine below_set ?_ GE101.out | refine below_set ?_ GE105.out) | exact HB.out)⟩
end Go.Proofs.YtkgicpnnlkcaeaaDoor.F
end
section
namespace Go.Proofs.YtkgicpnnlkcaeaaDoor.F
open Go.RowKit Go.Proofs.YtkgicpnnlkcaeaaDoorW.PrintWords Go.Proofs.YtkgicpnnlkcaeaaDoorW.PrintLast Go.Proofs.YtkgicpnnlkcaeaaDoorW.PrintMore
attribute [local go_sem] max2_int min2_int max_two min_two max_three min_three max_four min_four cell_setCell_isSome
set_option linter.unusedVariables false
set_option linter.unusedSimpArgs false
def op_row_sum_Out.l0 : Nat → Int → List (S33) → Int → Int → Option (Int)
  | 0, _, _, _, _ => none
  | k + 1, x5, x8, x9, x10 => if x10 < x9 then (if 0 ≤ x10 then (if x10 < (x8.length : Int) then ((span_Out.f ((rd_T33 x8 x10).f0) ((rd_T33 x8 x10).f1) ((rd_T33 x8 x10).f2)).bind fun t103 => (op_row_sum_Out.l0 k (wrap64 (x5 + t103)) x8 x9 (wrap64 (x10 + 1)))) else (none)) else (none)) else (some x5)
def op_row_sum_Out.f (k : Nat) (l0 : List (S33)) : Option (Int) := op_row_sum_Out.l0 k 0 l0 (l0.length : Int) 0
set_option maxHeartbeats 8000000 in
set_option maxRecDepth 100000 in
theorem op_row_sum_Out.calls (k : Nat) (A0 : Option Addr) (c0 : Nat) (l0 : List (S33)) (r : Int) (w : World) (hG : Glob w) (hr0 : Kd.C k33 w A0 l0.length l0) (hc0 : l0.length ≤ c0) (h : op_row_sum_Out.f k l0 = some r) :
    Calls Tryd.prog 43 #[.slice A0 l0.length c0, .func (.func 54) #[] #[]] w fun e w' => e = .returned (.int .i64 r) ∧ Below w.heap.size w w' := by
  have hu33 := Tryd.underlying33
  have HG := Aside0.mk hG
  clear hG
  have HR0 := Aside0.mk hr0
  have HC0 := Aside0.mk hc0
  clear hr0 hc0
  have HB := Aside0.mk (Below.refl w.heap.size w)
  have H : (op_row_sum_Out.l0 k 0 l0 (l0.length : Int) 0) = some r := h
  clear h
  have H' := Aside0.mk H
  clear H
  go_enter Tryd.func43, Tryd.ntmps43
  go_wp2
  go_loopg [5, 10] k (fun kq v5 v10 w' => ∃ (x5_1 : Int) (x10_1 : Int), v5 = .int .i64 x5_1 ∧ v10 = .int .i64 x10_1 ∧ Aside0 (op_row_sum_Out.l0 kq x5_1 l0 (l0.length : Int) x10_1 = some r) ∧ Aside0 (kq ≤ k) ∧ Aside0 (Below w.heap.size w w'))
  case atStart => exact ⟨(0), (0), (by first | rfl | (simp; done) | (simp [*]; done)), (by first | rfl | (simp; done) | (simp [*]; done)), H', ⟨Nat.le_refl _⟩, ⟨by repeat (first | (with_reducible first | exact HB.out | apply below_alloc | apply pw_below_drewN | apply below_drew1) | exact HB.out)⟩⟩
  case round =>
    clear H'
    obtain ⟨x5_1, x10_1, rfl, rfl, HA, HK1, HB⟩ := hrel
    cases gk with
    | zero => exact absurd HA.out (by simp [op_row_sum_Out.l0])
    | succ k1 =>
      have H := HA.out
      clear HA
      simp only [op_row_sum_Out.l0] at H
      by_cases c2 : x10_1 < (l0.length : Int)
      · rw [if_pos c2] at H
        have c2b0 : decide (x10_1 < (l0.length : Int)) = true := decide_eq_true c2
        clear c2
        by_cases c3 : 0 ≤ x10_1
        · rw [if_pos c3] at H
          have c3b0 : decide (0 ≤ x10_1) = true := decide_eq_true c3
          clear c3
          by_cases c4 : x10_1 < (l0.length : Int)
          · rw [if_pos c4] at H
            have c4b0 : decide (x10_1 < (l0.length : Int)) = true := decide_eq_true c4
            clear c4
            replace H := Option.bind_eq_some_iff.mp H
            obtain ⟨t103, A50, H⟩ := H
            replace H : (op_row_sum_Out.l0 k1 (wrap64 (x5_1 + t103)) l0 (l0.length : Int) (wrap64 (x10_1 + 1))) = some r := H
            have A5 := Aside0.mk A50
            clear A50
            have H' := Aside0.mk H
            clear H
            have p101 : 0 ≤ (x10_1 : Int) := of_decide_eq_true (by first | (with_reducible assumption) | assumption)
            have q101 : x10_1 < (l0.length : Int) := of_decide_eq_true (by first | (with_reducible assumption) | assumption)
            obtain ⟨ad101, e101, hx101_0, hx101_1, hx101_2⟩ := at_T33 HR0.out x10_1 p101 q101
            cases e101
            replace hx101_0 := (HB.out.cell (World.block_lt_of_cell? w _ hx101_0)).trans hx101_0
            replace hx101_1 := (HB.out.cell (World.block_lt_of_cell? w _ hx101_1)).trans hx101_1
            replace hx101_2 := (HB.out.cell (World.block_lt_of_cell? w _ hx101_2)).trans hx101_2
            replace p101 := eq_true p101
            replace q101 := eq_true q101
            go_wp2_with (first | ((with_reducible refine gate_dst (N := 7) rfl ?_); refine box_event ?hg (N := 7) ?hd (cs := #[.int .i64 0, .int .i64 0, .string (⟨#[]⟩ : ByteArray)]) (t := 33) ?hr ?_; (case hd => rfl); (case hg => rfl); (case hr => first | (go_simp; done) | (go_simp; rfl)); intro gb102 hg w6 hbox hb; have n0_ := Aside0.mk (below_step (by repeat (first | (with_reducible first | exact HB.out | apply below_alloc | apply pw_below_drewN | apply below_drew1) | exact HB.out)) hb); have n1_ := Aside0.mk (hbox); have n2_ := Aside0.mk ((by rw [hg]; exact (below_size (by repeat (first | (with_reducible first | exact HB.out | apply below_alloc | apply pw_below_drewN | apply below_drew1) | exact HB.out))) : w.heap.size ≤ gb102)); have n3_ := Aside0.mk ((by rw [hg]; exact (below_size (by repeat (first | (with_reducible first | exact HB.out | apply below_alloc | apply pw_below_drewN | apply below_drew1) | exact HB.out))) : w.heap.size ≤ gb102)); clear HB; have HB := n0_; have BK102 := n1_; have GW102 := n2_; have GE102 := n3_; clear n0_ n1_ n2_ n3_; clear hb hbox hg; have hcz7_0 : w6.cell? ⟨gb102, 0, none⟩ = some (.int .i64 0) := (blk_cell BK102.out 0).trans rfl; have hcz7_1 : w6.cell? ⟨gb102, 1, none⟩ = some (.int .i64 0) := (blk_cell BK102.out 1).trans rfl; have hcz7_2 : w6.cell? ⟨gb102, 2, none⟩ = some (.string (⟨#[]⟩ : ByteArray)) := (blk_cell BK102.out 2).trans rfl; have hfz7_0 := blk_frozen BK102.out 0; have hfz7_1 := blk_frozen BK102.out 1; have hfz7_2 := blk_frozen BK102.out 2) | ((with_reducible refine gate_value (x := .tmp 15) rfl ?_); refine goesV_ (some 17) rfl rfl Tryd.func54 (by kernel_rfl) rfl #[.agg #[.int .i64 ((rd_T33 l0 x10_1).f0), .int .i64 ((rd_T33 l0 x10_1).f1), .string ((rd_T33 l0 x10_1).f2)]] rfl rfl (by (try simp only [List.map_toArray, List.map_cons, List.map_nil]); first | done | rfl | (simp only [List.length_drop, List.length_take]; rfl)) ?_; (with_reducible refine (span_Out.calls ((rd_T33 l0 x10_1).f0) ((rd_T33 l0 x10_1).f1) ((rd_T33 l0 x10_1).f2) t103 _ ?side1 A5.out).mono ?_); (case side1 => first | (with_reducible exact HG.out) | exact Glob.below HG.out (by repeat (first | (with_reducible first | exact HB.out | apply below_alloc | apply pw_below_drewN | apply below_drew1 | refine below_set ?_ GE102.out) | exact HB.out)) | exact Glob.drawn HG.out (by repeat (first | exact Drawn0.refl _ | apply Drawn0.step))); rintro e w8 ⟨rfl, hb⟩; refine ⟨_, rfl, ?_⟩; have n0_ := Aside0.mk (blk_below (g := gb102) (o := .cells #[.int .i64 ((rd_T33 l0 x10_1).f0), .int .i64 ((rd_T33 l0 x10_1).f1), .string ((rd_T33 l0 x10_1).f2)] 33 (0, 0)) (by (with_reducible repeat (first | refine blk_drewN ?_ _ | refine blk_drew ?_ | refine blk_alloc ?_ _)); refine blk_put (cs := #[.int .i64 ((rd_T33 l0 x10_1).f0), .int .i64 ((rd_T33 l0 x10_1).f1), .string (⟨#[]⟩ : ByteArray)]) ?_ 2 _ rfl; (with_reducible repeat (first | refine blk_drewN ?_ _ | refine blk_drew ?_ | refine blk_alloc ?_ _)); refine blk_put (cs := #[.int .i64 ((rd_T33 l0 x10_1).f0), .int .i64 0, .string (⟨#[]⟩ : ByteArray)]) ?_ 1 _ rfl; (with_reducible repeat (first | refine blk_drewN ?_ _ | refine blk_drew ?_ | refine blk_alloc ?_ _)); refine blk_put (cs := #[.int .i64 0, .int .i64 0, .string (⟨#[]⟩ : ByteArray)]) ?_ 0 _ rfl; (with_reducible repeat (first | refine blk_drewN ?_ _ | refine blk_drew ?_ | refine blk_alloc ?_ _)); exact BK102.out) hb); have n1_ := Aside0.mk (below_step (by repeat (first | (with_reducible first | exact HB.out | apply below_alloc | apply pw_below_drewN | apply below_drew1 | refine below_set ?_ GE102.out) | exact HB.out)) hb); clear BK102; clear HB; have BK102 := n0_; have HB := n1_; clear n0_ n1_; (try clear hb); (try clear hb2); (try clear hk); (try clear hi)))
            go_roundg k1
            case measure => have := HK1.out; omega
            case rel => exact ⟨(wrap64 (x5_1 + t103)), (wrap64 (x10_1 + 1)), (by first | rfl | (simp; done) | (simp [*]; done)), (by first | rfl | (simp; done) | (simp [*]; done)), H', ⟨by have := HK1.out; omega⟩, ⟨by repeat (first | (with_reducible first | exact HB.out | apply below_alloc | apply pw_below_drewN | apply below_drew1 | refine below_set ?_ GE102.out) | exact HB.out)⟩⟩
          · rw [if_neg c4] at H
            exact absurd H (by simp)
        · rw [if_neg c3] at H
          exact absurd H (by simp)
      · rw [if_neg c2] at H
        have c2b0 : decide (x10_1 < (l0.length : Int)) = false := decide_eq_false c2
        clear c2
        obtain rfl := Option.some.inj H
        go_wp2
        go_ret
        exact ⟨by first | rfl | (simp [errW_none, errW_some] <;> rfl) | (simp [*, errW_none, errW_some] <;> rfl), by repeat (first | (with_reducible first | exact HB.out | apply below_alloc | apply pw_below_drewN | apply below_drew1) | exact HB.out)⟩
end Go.Proofs.YtkgicpnnlkcaeaaDoor.F
end
section
namespace Go.Proofs.YtkgicpnnlkcaeaaDoor.F
open Go.RowKit Go.Proofs.YtkgicpnnlkcaeaaDoorW.PrintWords Go.Proofs.YtkgicpnnlkcaeaaDoorW.PrintLast Go.Proofs.YtkgicpnnlkcaeaaDoorW.PrintMore
attribute [local go_sem] max2_int min2_int max_two min_two max_three min_three max_four min_four cell_setCell_isSome
set_option linter.unusedVariables false
set_option linter.unusedSimpArgs false
def op_Out.f (k : Nat) (l0 : List (S33)) : Option (Int) := (op_row_sum_Out.f k l0).bind fun t101 => (some t101)
set_option maxHeartbeats 8000000 in
set_option maxRecDepth 100000 in
theorem op_Out.calls (k : Nat) (A0 : Option Addr) (c0 : Nat) (l0 : List (S33)) (r : Int) (w : World) (hG : Glob w) (hr0 : Kd.C k33 w A0 l0.length l0) (hc0 : l0.length ≤ c0) (h : op_Out.f k l0 = some r) :
    Calls Tryd.prog 38 #[.slice A0 l0.length c0] w fun e w' => e = .returned (.int .i64 r) ∧ Below w.heap.size w w' := by
  have HG := Aside0.mk hG
  clear hG
  have HR0 := Aside0.mk hr0
  have HC0 := Aside0.mk hc0
  clear hr0 hc0
  have HB := Aside0.mk (Below.refl w.heap.size w)
  have H : ((op_row_sum_Out.f k l0).bind fun t101 => (some t101)) = some r := h
  clear h
  replace H := Option.bind_eq_some_iff.mp H
  obtain ⟨t101, A20, H⟩ := H
  replace H : (some t101) = some r := H
  have A2 := Aside0.mk A20
  clear A20
  obtain rfl := Option.some.inj H
  go_enter Tryd.func38, Tryd.ntmps38
  go_wp2_with (first | ((with_reducible refine gate_callee (f := 43) rfl ?_); refine goesL_ (some 4) rfl rfl Tryd.func43 (by kernel_rfl) rfl #[.slice A0 l0.length c0, .func (.func 54) #[] #[]] rfl (by (try simp only [List.map_toArray, List.map_cons, List.map_nil]); first | done | rfl | (simp only [List.length_drop, List.length_take]; rfl)) ?_; (with_reducible refine (op_row_sum_Out.calls k _ _ l0 t101 _ ?side1 ?side2 ?side3 A2.out).mono ?_); (case side1 => first | (with_reducible exact HG.out) | exact Glob.below HG.out (by repeat (first | (with_reducible first | exact HB.out | apply below_alloc | apply pw_below_drewN | apply below_drew1) | exact HB.out)) | exact Glob.drawn HG.out (by repeat (first | exact Drawn0.refl _ | apply Drawn0.step))); (case side2 => repeat (first | exact HR0.out | (with_reducible refine Kd.C_alloc ?_ _) | (with_reducible refine Kd.C_drewN ?_ _) | (with_reducible refine Kd.C_drew ?_))); (case side3 => exact HC0.out); rintro e w3 ⟨rfl, hb⟩; refine ⟨_, rfl, ?_⟩; have n0_ := Aside0.mk (below_step (by repeat (first | (with_reducible first | exact HB.out | apply below_alloc | apply pw_below_drewN | apply below_drew1) | exact HB.out)) hb); clear HB; have HB := n0_; clear n0_; (try clear hb); (try clear hb2); (try clear hk); (try clear hi)))
  go_ret
  exact ⟨by first | rfl | (simp [errW_none, errW_some] <;> rfl) | (simp [*, errW_none, errW_some] <;> rfl), by repeat (first | (with_reducible first | exact HB.out | apply below_alloc | apply pw_below_drewN | apply below_drew1) | exact HB.out)⟩
end Go.Proofs.YtkgicpnnlkcaeaaDoor.F
end
section
namespace Go.Proofs.YtkgicpnnlkcaeaaDoor.F
open Go.RowKit Go.Proofs.YtkgicpnnlkcaeaaDoorW.PrintWords Go.Proofs.YtkgicpnnlkcaeaaDoorW.PrintLast Go.Proofs.YtkgicpnnlkcaeaaDoorW.PrintMore
set_option linter.unusedVariables false
set_option linter.unusedSimpArgs false
theorem joinS_assoc (a b c : Sp) : joinS (joinS a b) c = joinS a (joinS b c) := by
  unfold joinS
  have e : wrap64 (wrap64 (a.f1 + b.f1) + c.f1) = wrap64 (a.f1 + wrap64 (b.f1 + c.f1)) := by unfold wrap64; omega
  simp only [e, ByteArray.append_assoc]
theorem runs_head (r : List Sp) (c : Sp) : ∃ d q, runs c r = d :: q ∧ d.f0 = c.f0 := by
  induction r generalizing c with
  | nil => exact ⟨c, [], rfl, rfl⟩
  | cons t r ih =>
    rw [runs]
    split
    · obtain ⟨d, q, e, h⟩ := ih (joinS c t)
      exact ⟨d, q, e, h⟩
    · exact ⟨c, _, rfl, rfl⟩
theorem merge_runs_left (b : List Sp) : ∀ (a : List Sp) (c : Sp), mergeS (runs c a ++ b) = runs c (a ++ b)
  | [], c => rfl
  | t :: r, c => by
    rw [List.cons_append, runs, runs]
    by_cases h : t.f0 = c.f0
    · rw [if_pos h, if_pos h]
      exact merge_runs_left b r (joinS c t)
    · rw [if_neg h, if_neg h]
      obtain ⟨d, q, e, hd⟩ := runs_head r t
      have ih := merge_runs_left b r t
      rw [e] at ih ⊢
      show runs c (d :: (q ++ b)) = _
      rw [runs, if_neg (by rw [hd]; exact h), ← ih]
      rfl
theorem merge_idem (r : List Sp) (t : Sp) : mergeS (runs t r) = runs t r := by
  have := merge_runs_left [] r t
  simpa using this
theorem runs_runs : ∀ (r : List Sp) (t c : Sp), runs c (runs t r) = runs c (t :: r)
  | [], t, c => rfl
  | u :: r, t, c => by
    by_cases hu : u.f0 = t.f0
    · have e1 : runs t (u :: r) = runs (joinS t u) r := by rw [runs, if_pos hu]
      rw [e1, runs_runs r (joinS t u) c]
      by_cases ht : t.f0 = c.f0
      · have e2 : runs c (joinS t u :: r) = runs (joinS c (joinS t u)) r := by rw [runs, if_pos (show (joinS t u).f0 = c.f0 from ht)]
        have e3 : runs c (t :: u :: r) = runs (joinS (joinS c t) u) r := by rw [runs, if_pos ht, runs, if_pos (by show u.f0 = c.f0; rw [hu, ht])]
        rw [e2, e3, joinS_assoc]
      · have e2 : runs c (joinS t u :: r) = c :: runs (joinS t u) r := by rw [runs, if_neg (show ¬ (joinS t u).f0 = c.f0 from ht)]
        have e3 : runs c (t :: u :: r) = c :: runs (joinS t u) r := by rw [runs, if_neg ht, runs, if_pos hu]
        rw [e2, e3]
    · have e1 : runs t (u :: r) = t :: runs u r := by rw [runs, if_neg hu]
      rw [e1]
      by_cases ht : t.f0 = c.f0
      · rw [runs, if_pos ht, runs_runs r u (joinS c t), runs, runs, if_pos ht]
        rw [runs]
      · have e3 : runs c (t :: u :: r) = c :: t :: runs u r := by rw [runs, if_neg ht, runs, if_neg hu]
        rw [e3, runs, if_neg ht]
        have := merge_idem r u
        have h2 := runs_runs r u t
        rw [h2, runs, if_neg hu]
theorem runs_right (b : List Sp) : ∀ (a : List Sp) (c : Sp), runs c (a ++ mergeS b) = runs c (a ++ b)
  | [], c => by
    cases b with
    | nil => rfl
    | cons t r => exact runs_runs r t c
  | t :: a, c => by
    rw [List.cons_append, List.cons_append, runs, runs, runs_right b a, runs_right b a]
theorem merge_right (a b : List Sp) : mergeS (a ++ mergeS b) = mergeS (a ++ b) := by
  cases a with
  | nil =>
    cases b with
    | nil => rfl
    | cons t r => exact merge_idem r t
  | cons c a => exact runs_right b a c
theorem w64_succ (n : Nat) (h : n ≤ 4611686018427387904) : wrap64 ((n : Int) + 1) = ((n + 1 : Nat) : Int) := by
  rw [w64 (by omega) (by omega)]
  omega
end Go.Proofs.YtkgicpnnlkcaeaaDoor.F
end
section
namespace Go.Proofs.YtkgicpnnlkcaeaaDoor.F
open Go.RowKit Go.Proofs.YtkgicpnnlkcaeaaDoorW.PrintWords Go.Proofs.YtkgicpnnlkcaeaaDoorW.PrintLast Go.Proofs.YtkgicpnnlkcaeaaDoorW.PrintMore
set_option linter.unusedVariables false
set_option linter.unusedSimpArgs false
section
variable {P : Program} {ops : Array Oper} {rest : List Oper} {o : Oper} {a : Act} {Q : Exit → Act → World → Prop} {W : World}
def ConvCalls (P : Program) (src dst : TypeId) (v : Value) (w : World) (post : Ending → World → Prop) : Prop := ∃ u w', (convert src dst v).run P w = .ok u w' ∧ post (.returned u) w'
theorem gate_convert {s t : TypeId} {x : Operand} (_ho : o.op = .convert s t x) (h : wpList P ops Q (o :: rest) a W) : wpList P ops Q (o :: rest) a W := h
theorem goesC_ {oi : Oper} {w : World} (N : Option Tmp) (hd : oi.dst = N) (hg : oi.guard = none) {src dst : TypeId} {x : Operand} (v : Value) (hop : oi.op = .convert src dst x) (hx : a.eval x = v)
    (h : ConvCalls P src dst v w fun e w' => ∃ u, e = .returned u ∧ wpList P ops Q rest (a.put N u) w') : wpList P ops Q (oi :: rest) a w := by
  obtain ⟨u, w', hr, u', he, hk⟩ := h
  injection he with he
  subst he
  refine wpList_plain hg fun K hK => ?_
  unfold Oper.wp execOp
  simp only [hop, hx, Sem.run_bind, Sem.run_pure, hr, Result.andThen_ok]
  subst hd
  exact hK _ _ hk
end
def runesL (s : ByteArray) : Nat → Nat → List Int
  | 0, _ => []
  | b + 1, i => if i < s.size then ((Utf8.decode s i).1 : Int) :: runesL s b (i + (Utf8.decode s i).2) else []
theorem runesFrom_is (s : ByteArray) : ∀ (b i : Nat) (acc : Array Value), (Conv.runesFrom s b i acc).toList = acc.toList ++ (runesL s b i).map (Value.int .i32)
  | 0, i, acc => by simp [Conv.runesFrom, runesL]
  | b + 1, i, acc => by
    unfold Conv.runesFrom runesL
    by_cases h : i < s.size
    · rw [if_pos h, if_pos h]
      simp only
      rw [runesFrom_is s b]
      simp
    · rw [if_neg h, if_neg h]
      simp
theorem runesL_length (s : ByteArray) : ∀ (b i : Nat), (runesL s b i).length ≤ b
  | 0, i => Nat.le_refl _
  | b + 1, i => by
    unfold runesL
    split
    · simp
      exact runesL_length s b _
    · simp
def str_runes.f (a0 : ByteArray) : Option (List Int) := if a0.size ≤ 17592186044416 then some (runesL a0 a0.size 0) else none
def runes_str.f (l0 : List Int) : Option ByteArray := some (runesBytes l0)
theorem str_runes.calls (a0 : ByteArray) (r : List Int) (w : World) (h : str_runes.f a0 = some r) :
    ConvCalls Tryd.prog 9 67 (.string a0) w fun e w' => ∃ v0_ : Value, e = .returned (v0_) ∧ Kd.R (Kd.int .i32) 21 w' w.heap.size (fun _ => True) v0_ r ∧ Below w.heap.size w w' := by
  unfold str_runes.f at h
  split at h
  · next hs =>
    obtain rfl := Option.some.inj h
    have hl := runesL_length a0 a0.size 0
    have hz : (Conv.runesFrom a0 a0.size 0 #[]).toList = (runesL a0 a0.size 0).map (Value.int .i32) := by rw [runesFrom_is]; simp
    have hsz : (Conv.runesFrom a0 a0.size 0 #[]).size = (runesL a0 a0.size 0).length := by rw [← Array.length_toList, hz, List.length_map]
    have hrun := run_runes_of_string (P := Tryd.prog) w 9 67 21 a0 Tryd.underlying9 Tryd.underlying67 Tryd.underlying21 (by omega)
    refine ⟨_, _, hrun, _, rfl, ?_, ?_⟩
    · refine Kd.R_of_own (enc := Value.int .i32) (h1 := fun _ => rfl) ?_ (fun _ _ => trivial)
      have hge := grownCap_ge w (Conv.runesFrom a0 a0.size 0 #[]).size 0 21
      have hle := grownCap_le_maxLen w (Conv.runesFrom a0 a0.size 0 #[]).size 0 21 (by unfold maxLen; omega)
      generalize grownCap w (Conv.runesFrom a0 a0.size 0 #[]).size 0 21 = cap at *
      generalize Conv.runesFrom a0 a0.size 0 #[] = C at *
      have h1 : (C ++ Array.replicate (cap - C.size) (Value.int .i32 0)).size = cap * 1 := by
        rw [Array.size_append, Array.size_replicate]
        omega
      have h2 : (C ++ Array.replicate (cap - C.size) (Value.int .i32 0)).toList.take ((runesL a0 a0.size 0).length * 1) = encs (Value.int .i32) (runesL a0 a0.size 0) := by
        rw [Array.toList_append, hz, Nat.mul_one, List.take_left' (by simp)]
        rfl
      exact ⟨by simp [encs], .inr ⟨w.heap.size, cap, _, by rw [hsz], Nat.le_refl _, heap_alloc_new w.drew _, by omega, hle, h1, h2⟩⟩
    · exact below_alloc (below_drew1 (Below.refl _ _)) _
  · cases h
theorem runes_str.calls (A0 : Option Addr) (c0 : Nat) (l0 : List Int) (r : ByteArray) (w : World) (hr0 : Kd.C (Kd.int .i32) w A0 l0.length l0) (hc0 : l0.length ≤ c0) (h : runes_str.f l0 = some r) :
    ConvCalls Tryd.prog 67 9 (.slice A0 l0.length c0) w fun e w' => e = .returned (.string r) ∧ Drawn0 w w' := by
  obtain rfl := Option.some.inj h
  have hd : Drawn0 w w := Drawn0.refl _
  cases A0 with
  | none =>
    have h0 : l0.length = 0 := by
      rcases Nat.eq_zero_or_pos l0.length with h | h
      · exact h
      · obtain ⟨ad, e, _⟩ := hr0.2.2 h
        cases e
    obtain rfl := List.eq_nil_of_length_eq_zero h0
    exact ⟨_, _, run_convert_runes_nil (P := Tryd.prog) w 67 9 21 _ _ Tryd.underlying67 Tryd.underlying21 Tryd.underlying9, rfl, hd⟩
  | some ad =>
    have hc : ∀ j, j < l0.length → w.cell? (ad.add j) = some (.int .i32 (l0.getD j 0)) := by
      intro j hj
      obtain ⟨ad', e, hx⟩ := Kd.at_int hr0 (j : Int) (by omega) (by omega)
      cases e
      simpa [rd] using hx
    have hrun := run_convert_runes (P := Tryd.prog) w 67 9 21 ad l0.length c0 l0 (Nat.le_refl _) Tryd.underlying67 Tryd.underlying21 Tryd.underlying9 hc
    rw [List.take_length] at hrun
    exact ⟨_, _, hrun, rfl, hd⟩
end Go.Proofs.YtkgicpnnlkcaeaaDoor.F
end
section
namespace Go.Proofs.YtkgicpnnlkcaeaaDoor.F
open Go.RowKit Go.Proofs.YtkgicpnnlkcaeaaDoorW.PrintWords Go.Proofs.YtkgicpnnlkcaeaaDoorW.PrintLast Go.Proofs.YtkgicpnnlkcaeaaDoorW.PrintMore
set_option linter.unusedVariables false
set_option linter.unusedSimpArgs false
def encL (l : List Int) : List UInt8 := (encB l).map (fun n => UInt8.ofNat n.toNat)
theorem encT_list (l : List Int) : (encT l).data.toList = encL l := by unfold encT encL strOfNums; simp
theorem encL_cons (r : Int) (l : List Int) : encL (r :: l) = (enc1 r).map (fun n => UInt8.ofNat n.toNat) ++ encL l := by unfold encL; rw [encB_cons, List.map_append]
theorem u8n (n : Nat) (h : n < 256) : (UInt8.ofNat n).toNat = n := by simp [UInt8.toNat_ofNat']; omega
theorem enc1_nat (m : Nat) : (enc1 (m : Int)).map (fun n => UInt8.ofNat n.toNat) =
    if m < 128 then [UInt8.ofNat m] else if m < 2048 then [UInt8.ofNat (192 + m / 64), UInt8.ofNat (128 + m % 64)]
    else if m < 65536 then [UInt8.ofNat (224 + m / 4096), UInt8.ofNat (128 + m / 64 % 64), UInt8.ofNat (128 + m % 64)]
    else [UInt8.ofNat (240 + m / 262144), UInt8.ofNat (128 + m / 4096 % 64), UInt8.ofNat (128 + m / 64 % 64), UInt8.ofNat (128 + m % 64)] := by
  unfold enc1
  by_cases h1 : m < 128
  · rw [if_pos h1, if_pos (by omega)]; simp
  · rw [if_neg h1, if_neg (by omega)]
    by_cases h2 : m < 2048
    · rw [if_pos h2, if_pos (by omega)]
      simp only [List.map_cons, List.map_nil]
      rw [show (192 + (m : Int) / 64).toNat = 192 + m / 64 by omega, show (128 + (m : Int) % 64).toNat = 128 + m % 64 by omega]
    · rw [if_neg h2, if_neg (by omega)]
      by_cases h3 : m < 65536
      · rw [if_pos h3, if_pos (by omega)]
        simp only [List.map_cons, List.map_nil]
        rw [show (224 + (m : Int) / 4096).toNat = 224 + m / 4096 by omega, show (128 + (m : Int) / 64 % 64).toNat = 128 + m / 64 % 64 by omega, show (128 + (m : Int) % 64).toNat = 128 + m % 64 by omega]
      · rw [if_neg h3, if_neg (by omega)]
        simp only [List.map_cons, List.map_nil]
        rw [show (240 + (m : Int) / 262144).toNat = 240 + m / 262144 by omega, show (128 + (m : Int) / 4096 % 64).toNat = 128 + m / 4096 % 64 by omega, show (128 + (m : Int) / 64 % 64).toNat = 128 + m / 64 % 64 by omega, show (128 + (m : Int) % 64).toNat = 128 + m % 64 by omega]
theorem decode1 (m n : Nat) (b1 b2 b3 : Nat) (h : m < 128) : Lib.decodeN n m b1 b2 b3 = (m, 1) := by unfold Lib.decodeN; rw [if_pos h]
theorem decode2 (m n : Nat) (b2 b3 : Nat) (h : ¬ m < 128) (h2 : m < 2048) (hn : 2 ≤ n) : Lib.decodeN n (192 + m / 64) (128 + m % 64) b2 b3 = (m, 2) := by
  unfold Lib.decodeN
  rw [if_neg (by omega), if_pos ⟨by omega, by omega, by omega⟩, if_pos (by omega)]
  congr 1
  omega
theorem decode3 (m n : Nat) (b3 : Nat) (h2 : ¬ m < 2048) (h3 : m < 65536) (hv : m < 55296 ∨ 57344 ≤ m) (hn : 3 ≤ n) : Lib.decodeN n (224 + m / 4096) (128 + m / 64 % 64) (128 + m % 64) b3 = (m, 3) := by
  unfold Lib.decodeN
  have e : (224 + m / 4096) % 16 * 4096 + (128 + m / 64 % 64) % 64 * 64 + (128 + m % 64) % 64 = m := by omega
  rw [if_neg (by omega), if_neg (by omega), if_pos ⟨by omega, ⟨by omega, by omega⟩, by omega, by omega⟩, e, if_pos (by omega)]
theorem decode4 (m n : Nat) (h3 : ¬ m < 65536) (hv : m ≤ 1114111) (hn : 4 ≤ n) : Lib.decodeN n (240 + m / 262144) (128 + m / 4096 % 64) (128 + m / 64 % 64) (128 + m % 64) = (m, 4) := by
  unfold Lib.decodeN
  have e : (240 + m / 262144) % 8 * 262144 + (128 + m / 4096 % 64) % 64 * 4096 + (128 + m / 64 % 64) % 64 * 64 + (128 + m % 64) % 64 = m := by omega
  rw [if_neg (by omega), if_neg (by omega), if_neg (by omega), if_pos ⟨by omega, ⟨by omega, by omega⟩, ⟨by omega, by omega⟩, by omega, by omega⟩, e, if_pos (by omega)]
theorem decodeL_enc (r : Int) (h : isRune r) (rest : List UInt8) : Lib.decodeL ((enc1 r).map (fun n => UInt8.ofNat n.toNat) ++ rest) = (r.toNat, (enc1 r).length) := by
  have hr : ∃ m : Nat, r = (m : Int) := ⟨r.toNat, by unfold isRune at h; omega⟩
  obtain ⟨m, rfl⟩ := hr
  have hv : m < 55296 ∨ (57344 ≤ m ∧ m ≤ 1114111) := by unfold isRune at h; omega
  have hlen : (enc1 (m : Int)).length = if m < 128 then 1 else if m < 2048 then 2 else if m < 65536 then 3 else 4 := by
    have := congrArg List.length (enc1_nat m)
    rw [List.length_map] at this
    rw [this]
    split
    · rfl
    · split
      · rfl
      · split <;> rfl
  rw [enc1_nat m, hlen, Lib.decodeL_N, Int.toNat_natCast]
  by_cases h1 : m < 128
  · simp only [if_pos h1]
    have := decode1 m (1 + rest.length) (((UInt8.ofNat m :: rest).getD 1 0).toNat) (((UInt8.ofNat m :: rest).getD 2 0).toNat) (((UInt8.ofNat m :: rest).getD 3 0).toNat) h1
    simp only [List.cons_append, List.nil_append, List.length_cons, List.getD_cons_zero, u8n m (by omega)]
    exact decode1 _ _ _ _ _ h1
  · simp only [if_neg h1]
    by_cases h2 : m < 2048
    · simp only [if_pos h2, List.cons_append, List.nil_append, List.length_cons, List.getD_cons_zero, List.getD_cons_succ, u8n (192 + m / 64) (by omega), u8n (128 + m % 64) (by omega)]
      exact decode2 _ _ _ _ h1 h2 (by omega)
    · simp only [if_neg h2]
      by_cases h3 : m < 65536
      · simp only [if_pos h3, List.cons_append, List.nil_append, List.length_cons, List.getD_cons_zero, List.getD_cons_succ, u8n (224 + m / 4096) (by omega), u8n (128 + m / 64 % 64) (by omega), u8n (128 + m % 64) (by omega)]
        exact decode3 _ _ _ h2 h3 (by omega) (by omega)
      · simp only [if_neg h3, List.cons_append, List.nil_append, List.length_cons, List.getD_cons_zero, List.getD_cons_succ, u8n (240 + m / 262144) (by omega), u8n (128 + m / 4096 % 64) (by omega), u8n (128 + m / 64 % 64) (by omega), u8n (128 + m % 64) (by omega)]
        exact decode4 _ _ h3 (by omega) (by omega)
def Runes (l : List Int) : Prop := ∀ r ∈ l, isRune r
theorem Runes.cons {r : Int} {l : List Int} (h : Runes (r :: l)) : isRune r ∧ Runes l := ⟨h r (by simp), fun x hx => h x (by simp [hx])⟩
theorem Runes.append {a b : List Int} (ha : Runes a) (hb : Runes b) : Runes (a ++ b) := fun x hx => (List.mem_append.1 hx).elim (ha x) (hb x)
theorem Runes.take {a : List Int} (h : Runes a) (n : Nat) : Runes (a.take n) := fun x hx => h x (List.mem_of_mem_take hx)
theorem Runes.drop {a : List Int} (h : Runes a) (n : Nat) : Runes (a.drop n) := fun x hx => h x (List.mem_of_mem_drop hx)
theorem Runes.nil : Runes [] := fun x hx => by cases hx
theorem size_none : (⟨#[]⟩ : ByteArray).size = 0 := rfl
theorem encL_ne (r : Int) (l : List Int) : encL (r :: l) ≠ [] := by
  have := enc1_length r
  intro h
  have h2 := congrArg List.length h
  rw [encL_cons, List.length_append, List.length_map, List.length_nil] at h2
  omega
theorem drop_enc (r : Int) (l : List Int) : (encL (r :: l)).drop (enc1 r).length = encL l := by
  rw [encL_cons, List.drop_left' (by simp)]
theorem validD_enc : ∀ (l : List Int), Runes l → Lib.validD (encL l) = true
  | [], _ => rfl
  | r :: l, h => by
    obtain ⟨h1, h2⟩ := h.cons
    rw [Lib.validD_step _ (encL_ne r l)]
    have hd : Lib.decodeL (encL (r :: l)) = (r.toNat, (enc1 r).length) := by rw [encL_cons]; exact decodeL_enc r h1 _
    rw [hd, drop_enc, if_neg ?_]
    · exact validD_enc l h2
    · rintro ⟨e1, e2⟩
      have e1 : r.toNat = 65533 := e1
      have e2 : (enc1 r).length = 1 := e2
      have hr : r = 65533 := by unfold isRune at h1; omega
      subst hr
      simp [enc1] at e2
theorem decode_at_enc (a : List Int) (r : Int) (b : List Int) (h : isRune r) : Utf8.decode (encT (a ++ r :: b)) (encT a).size = (r.toNat, (enc1 r).length) := by
  have hd : (encT (a ++ r :: b)).data.toList.drop (encT a).size = encL (r :: b) := by
    rw [encT_list]
    unfold encL
    rw [encB_append, List.map_append, List.drop_left']
    rw [List.length_map]
    unfold encT
    rw [strOfNums_size]
  rw [← Lib.decodeL_drop, hd, encL_cons]
  exact decodeL_enc r h _
theorem encT_snoc_size (a : List Int) (r : Int) : (encT (a ++ [r])).size = (encT a).size + (enc1 r).length := by
  unfold encT
  rw [strOfNums_size, strOfNums_size, encB_append, List.length_append]
  simp [encB]
theorem encT_lt (a : List Int) (r : Int) (b : List Int) : (encT a).size < (encT (a ++ r :: b)).size := by
  have := (enc1_length r).1
  unfold encT
  rw [strOfNums_size, strOfNums_size, encB_append, List.length_append, encB_cons, List.length_append]
  omega
theorem runeCount_from : ∀ (b a : List Int) (n : Nat), Runes b → b.length ≤ n → Lib.runeCountFrom (encT (a ++ b)) n (encT a).size = b.length
  | [], a, n, h, hn => by
    rw [Lib.runeCountFrom_end _ _ _ (by simp)]
    rfl
  | r :: b, a, 0, h, hn => by simp at hn
  | r :: b, a, n + 1, h, hn => by
    obtain ⟨h1, h2⟩ := h.cons
    rw [Lib.runeCountFrom, if_pos (encT_lt a r b), decode_at_enc a r b h1]
    have := runeCount_from b (a ++ [r]) n h2 (by simp at hn; omega)
    rw [encT_snoc_size, List.append_assoc, List.singleton_append] at this
    show 1 + Lib.runeCountFrom _ n ((encT a).size + (enc1 r).length) = _
    rw [this, List.length_cons]
    omega
theorem runeCount_enc (l : List Int) (h : Runes l) : Lib.runeCount (encT l) = l.length := by
  have := runeCount_from l [] (encT l).size h (encT_size l).1
  simpa [Lib.runeCount, encT_nil, size_none] using this
theorem runesL_from : ∀ (b a : List Int) (n : Nat), Runes b → b.length ≤ n → runesL (encT (a ++ b)) n (encT a).size = b
  | [], a, 0, h, hn => rfl
  | [], a, n + 1, h, hn => by
    rw [runesL, if_neg (by simp)]
  | r :: b, a, 0, h, hn => by simp at hn
  | r :: b, a, n + 1, h, hn => by
    obtain ⟨h1, h2⟩ := h.cons
    rw [runesL, if_pos (encT_lt a r b), decode_at_enc a r b h1]
    have := runesL_from b (a ++ [r]) n h2 (by simp at hn; omega)
    rw [encT_snoc_size, List.append_assoc, List.singleton_append] at this
    show ((r.toNat : Nat) : Int) :: runesL _ n ((encT a).size + (enc1 r).length) = _
    rw [this]
    congr 1
    unfold isRune at h1
    omega
theorem runesL_enc (l : List Int) (h : Runes l) : runesL (encT l) (encT l).size 0 = l := by
  have := runesL_from l [] (encT l).size h (encT_size l).1
  simpa [encT_nil, size_none] using this
theorem encode_nat (r : Int) (h : isRune r) : Utf8.encode r = strOfNums (enc1 r) := by
  have hv : Utf8.valid r = true := by
    unfold isRune at h
    unfold Utf8.valid
    simp
    omega
  obtain ⟨m, rfl⟩ : ∃ m : Nat, r = (m : Int) := ⟨r.toNat, by unfold isRune at h; omega⟩
  have he : strOfNums (enc1 (m : Int)) = ⟨((enc1 (m : Int)).map (fun n => UInt8.ofNat n.toNat)).toArray⟩ := rfl
  rw [he, enc1_nat m]
  unfold Utf8.encode
  simp only [hv, if_true, Int.toNat_natCast]
  by_cases h1 : m < 128
  · simp only [if_pos h1]
  · simp only [if_neg h1]
    by_cases h2 : m < 2048
    · simp only [if_pos h2]
    · simp only [if_neg h2]
      by_cases h3 : m < 65536
      · simp only [if_pos h3]
      · simp only [if_neg h3]
theorem runesBytes_from : ∀ (l : List Int) (s : ByteArray), Runes l → l.foldl (fun r n => r ++ Utf8.encode n) s = s ++ encT l
  | [], s, h => by
    show s = s ++ encT []
    rw [encT_nil]
    apply ByteArray.ext
    simp [ByteArray.data_append]
  | r :: l, s, h => by
    obtain ⟨h1, h2⟩ := h.cons
    rw [List.foldl_cons, runesBytes_from l _ h2, encode_nat r h1]
    have : encT (r :: l) = strOfNums (enc1 r) ++ encT l := by
      unfold encT
      rw [encB_cons, strOfNums_append]
    rw [this]
    apply ByteArray.ext
    simp [ByteArray.data_append]
theorem runesBytes_enc (l : List Int) (h : Runes l) : runesBytes l = encT l := by
  unfold runesBytes
  rw [runesBytes_from l _ h]
  apply ByteArray.ext
  simp [ByteArray.data_append]
theorem big_enc {l : List Int} (h : l.length ≤ 1099511627776) : (encT l).size ≤ 4398046511104 := by
  have := (encT_size l).2
  omega
theorem validStr_enc (l : List Int) (h : Runes l) (hl : l.length ≤ 1099511627776) : points_Valid.f (encT l) = some true := by
  have := big_enc hl
  exact valid_some (by omega) (by rw [encT_list]; exact validD_enc l h)
theorem count_enc (l : List Int) (h : Runes l) (hl : l.length ≤ 1099511627776) : points_Count.f (encT l) = some (l.length : Int) := by
  have := big_enc hl
  unfold points_Count.f
  rw [if_pos (by omega), encT_list, validD_enc l h, if_pos rfl, runeCount_enc l h]
theorem strRunes_enc (l : List Int) (h : Runes l) (hl : l.length ≤ 1099511627776) : str_runes.f (encT l) = some l := by
  have := big_enc hl
  unfold str_runes.f
  rw [if_pos (by omega), runesL_enc l h]
theorem runesStr_enc (l : List Int) (h : Runes l) : runes_str.f l = some (encT l) := by
  unfold runes_str.f
  rw [runesBytes_enc l h]
end Go.Proofs.YtkgicpnnlkcaeaaDoor.F
end
section
namespace Go.Proofs.YtkgicpnnlkcaeaaDoor.F
open Go.RowKit Go.Proofs.YtkgicpnnlkcaeaaDoorW.PrintWords Go.Proofs.YtkgicpnnlkcaeaaDoorW.PrintLast Go.Proofs.YtkgicpnnlkcaeaaDoorW.PrintMore
set_option linter.unusedVariables false
set_option linter.unusedSimpArgs false
def Un.ok : Un → Prop
  | .put l => Runes l
  | _ => True
structure Ok (us : List Un) : Prop where
  ok : ∀ u ∈ us, u.ok
  len : us.length ≤ 2097152
  cin : (us.map Un.cin).sum ≤ 1048576
  cout : (us.map Un.cout).sum ≤ 1099511627776
theorem few_ok {u : Un} (h : u.few) : u.ok := by
  cases u with
  | put l => exact fun r hr => alpha_rune r (h.2 r hr)
  | keep n => trivial
  | drop n => trivial
theorem few_out {u : Un} (h : u.few) : u.cin ≤ 63 ∧ u.cout ≤ 63 := by
  cases u with
  | put l => exact ⟨Nat.zero_le _, by have := h.1; show l.length ≤ 63; omega⟩
  | keep n => exact ⟨h, h⟩
  | drop n => exact ⟨h, Nat.zero_le _⟩
theorem cout_few : ∀ (us : List Un), (∀ u ∈ us, u.few) → (us.map Un.cout).sum ≤ 63 * us.length
  | [], _ => Nat.zero_le _
  | u :: us, h => by
    have h1 := (few_out (h u (by simp))).2
    have h2 := cout_few us (fun v hv => h v (by simp [hv]))
    simp only [List.map_cons, List.sum_cons, List.length_cons]
    omega
theorem made_ok {us : List Un} {n : Nat} (h : Made us n) (hn : n ≤ 1048576) : Ok us := by
  have h1 := h.len
  have h2 := cout_few us h.few
  exact ⟨fun u hu => few_ok (h.few u hu), by omega, by rw [h.cin]; exact hn, by omega⟩
theorem none_valid : points_Valid.f ⟨#[]⟩ = some true := validStr_enc [] Runes.nil (by simp)
theorem spanMay_keep (n : Nat) (k3 : Int) (hk : k3 = 1 ∨ k3 = 3) (h : n ≤ 1048576) : Ev (fun k => span_May.f k k3 (n : Int) ⟨#[]⟩) 0 := by
  have hv := none_valid
  have hn : (⟨#[]⟩ : ByteArray).toList = [] := by rw [ByteArray.toList_eq]
  have hd : decide ((n : Int) > 1048576) = false := by simp; omega
  have j2 : Ev (fun k => span_May.j2 k false k3 (n : Int) ⟨#[]⟩) 0 := by
    refine Ev.step (f := fun _ => some 0) (fun k => ?_) (Ev.now _)
    rw [span_May.j2, if_neg (by simp), hv]
    rfl
  have j1 : ∀ b, Ev (fun k => span_May.j1 k false k3 (n : Int) ⟨#[]⟩ true b) 0 := by
    intro b
    refine Ev.step (f := fun k => span_May.j2 k false k3 (n : Int) ⟨#[]⟩) (fun k => ?_) j2
    rw [span_May.j1, if_neg (by simp), if_pos rfl, hn]
    rfl
  have j0 : ∀ b, Ev (fun k => span_May.j0 k false k3 (n : Int) ⟨#[]⟩ true b) 0 := by
    intro b
    refine Ev.step (f := fun k => span_May.j1 k false k3 (n : Int) ⟨#[]⟩ true b) (fun k => ?_) (j1 b)
    rw [span_May.j0, if_neg (by simp), if_pos rfl]
  have hso : ∃ b, span_of.f k3 (n : Int) ⟨#[]⟩ = some (true, b, true) := by
    rcases hk with rfl | rfl
    · exact ⟨true, rfl⟩
    · exact ⟨false, rfl⟩
  obtain ⟨b, hso⟩ := hso
  unfold span_May.f
  refine ev_some hso (ev_if_pos rfl (ev_if_pos rfl (ev_if_neg (by omega) ?_)))
  rw [hd]
  exact j0 b
theorem spanMay_put (l : List Int) (hl : Runes l) (h : l.length ≤ 1099511627776) : Ev (fun k => span_May.f k 2 0 (encT l)) 0 := by
  have hv := validStr_enc l hl h
  have j2 : Ev (fun k => span_May.j2 k false 2 0 (encT l)) 0 := by
    refine Ev.step (f := fun _ => some 0) (fun k => ?_) (Ev.now _)
    rw [span_May.j2, if_neg (by simp), hv]
    rfl
  have j1 : Ev (fun k => span_May.j1 k false 2 0 (encT l) false false) 0 := by
    refine Ev.step (f := fun k => span_May.j2 k false 2 0 (encT l)) (fun k => ?_) j2
    rw [span_May.j1, if_neg (by simp), if_neg (by simp)]
  have j0 : Ev (fun k => span_May.j0 k false 2 0 (encT l) false false) 0 := by
    refine Ev.step (f := fun k => span_May.j1 k false 2 0 (encT l) false false) (fun k => ?_) j1
    rw [span_May.j0, if_neg (by simp), if_neg (by simp)]
    rfl
  unfold span_May.f
  exact ev_some (show span_of.f 2 0 (encT l) = some (false, false, true) from rfl) (ev_if_pos rfl (ev_if_neg (by simp) j0))
theorem spanMay_is (u : Un) (h : u.ok) (h1 : u.cin ≤ 1048576) (h2 : u.cout ≤ 1099511627776) : Ev (fun k => span_May.f k u.sp.f0 u.sp.f1 u.sp.f2) 0 := by
  cases u with
  | keep n => exact spanMay_keep n 1 (.inl rfl) h1
  | put l => exact spanMay_put l h h2
  | drop n => exact spanMay_keep n 3 (.inr rfl) h1
theorem spanIn_is (u : Un) : span_In.f u.sp.f0 u.sp.f1 u.sp.f2 = some (u.cin : Int) := by
  cases u <;> rfl
theorem spanOut_is (u : Un) (h : u.ok) (h2 : u.cout ≤ 1099511627776) : span_Out.f u.sp.f0 u.sp.f1 u.sp.f2 = some (u.cout : Int) := by
  cases u with
  | keep n => rfl
  | put l =>
    unfold span_Out.f
    rw [show span_of.f (Un.put l).sp.f0 (Un.put l).sp.f1 (Un.put l).sp.f2 = some (false, false, true) from rfl, Option.bind_some, if_neg (by simp), if_pos (show (Un.put l).sp.f0 = 2 from rfl)]
    rw [show (Un.put l).sp.f2 = encT l from rfl, count_enc l h h2, Option.bind_some]
    unfold mx
    rw [show (Un.put l).cout = l.length from rfl]
    congr 1
  | drop n => rfl
theorem rowSum_loop (l : List Un) (hl : l.length ≤ 2097152) (hc : (l.map Un.cin).sum ≤ 1048576) : ∀ (r pre : List Un), l = pre ++ r →
    Ev (fun k => op_row_sum.l0 k (((pre.map Un.cin).sum : Nat) : Int) (l.map Un.sp) ((l.map Un.sp).length : Int) (pre.length : Int)) (((l.map Un.cin).sum : Nat) : Int)
  | [], pre, h => by
    refine Ev.step (f := fun _ => some (((l.map Un.cin).sum : Nat) : Int)) (fun k => ?_) (Ev.now _)
    rw [op_row_sum.l0, if_neg (by subst h; simp)]
    subst h
    simp
  | u :: r, pre, h => by
    have hlt : (pre.length : Int) < ((l.map Un.sp).length : Int) := by subst h; simp <;> omega
    have hll : pre.length + (r.length + 1) = l.length := by subst h; simp
    have hrd : rd_T33 (l.map Un.sp) (pre.length : Int) = u.sp := by
      rw [h, List.map_append, List.map_cons]
      exact rdS_at (by simp)
    have hs : (l.map Un.cin).sum = (pre.map Un.cin).sum + (u.cin + (r.map Un.cin).sum) := by rw [h]; simp
    have ih := rowSum_loop l hl hc r (pre ++ [u]) (by simp [h])
    refine Ev.step (fun k => ?_) ih
    rw [op_row_sum.l0, if_pos hlt, if_pos (by omega), if_pos hlt, hrd, spanIn_is, Option.bind_some, w64_succ _ (by omega), w64 (by omega) (by omega)]
    simp
theorem opIn_is {us : List Un} (h : Ok us) : Ev (fun k => op_In.f k (us.map Un.sp)) (((us.map Un.cin).sum : Nat) : Int) := by
  unfold op_In.f op_row_sum.f
  have := rowSum_loop us h.len h.cin us [] rfl
  exact Ev.bind (by simpa using this) (Ev.now _)
theorem rowSumOut_loop (l : List Un) (hl : Ok l) : ∀ (r pre : List Un), l = pre ++ r →
    Ev (fun k => op_row_sum_Out.l0 k (((pre.map Un.cout).sum : Nat) : Int) (l.map Un.sp) ((l.map Un.sp).length : Int) (pre.length : Int)) (((l.map Un.cout).sum : Nat) : Int)
  | [], pre, h => by
    refine Ev.step (f := fun _ => some (((l.map Un.cout).sum : Nat) : Int)) (fun k => ?_) (Ev.now _)
    rw [op_row_sum_Out.l0, if_neg (by subst h; simp)]
    subst h
    simp
  | u :: r, pre, h => by
    have hlt : (pre.length : Int) < ((l.map Un.sp).length : Int) := by subst h; simp <;> omega
    have hll : pre.length + (r.length + 1) = l.length := by subst h; simp
    have hle := hl.len
    have hco := hl.cout
    have hrd : rd_T33 (l.map Un.sp) (pre.length : Int) = u.sp := by
      rw [h, List.map_append, List.map_cons]
      exact rdS_at (by simp)
    have hs : (l.map Un.cout).sum = (pre.map Un.cout).sum + (u.cout + (r.map Un.cout).sum) := by rw [h]; simp
    have ih := rowSumOut_loop l hl r (pre ++ [u]) (by simp [h])
    refine Ev.step (fun k => ?_) ih
    rw [op_row_sum_Out.l0, if_pos hlt, if_pos (by omega), if_pos hlt, hrd, spanOut_is u (hl.ok u (by rw [h]; simp)) (by omega), Option.bind_some, w64_succ _ (by omega), w64 (by omega) (by omega)]
    simp
theorem opOut_is {us : List Un} (h : Ok us) : Ev (fun k => op_Out.f k (us.map Un.sp)) (((us.map Un.cout).sum : Nat) : Int) := by
  unfold op_Out.f op_row_sum_Out.f
  have := rowSumOut_loop us h us [] rfl
  exact Ev.bind (by simpa using this) (Ev.now _)
theorem opMay_loop (l : List Un) (hl : Ok l) : ∀ (r pre : List Un), l = pre ++ r →
    Ev (fun k => op_May.l0 k (l.map Un.sp) (l.map Un.sp) ((l.map Un.sp).length : Int) (pre.length : Int)) 0
  | [], pre, h => by
    have hci := hl.cin
    refine Ev.step (f := fun k => _) (fun k => by rw [op_May.l0, if_neg (by subst h; simp)]) ?_
    refine Ev.bind (opIn_is hl) ?_
    exact ev_if_neg (by omega) (Ev.now 0)
  | u :: r, pre, h => by
    have hlt : (pre.length : Int) < ((l.map Un.sp).length : Int) := by subst h; simp <;> omega
    have hll : pre.length + (r.length + 1) = l.length := by subst h; simp
    have hle := hl.len
    have hco := hl.cout
    have hci := hl.cin
    have hrd : rd_T33 (l.map Un.sp) (pre.length : Int) = u.sp := by
      rw [h, List.map_append, List.map_cons]
      exact rdS_at (by simp)
    have hs : (l.map Un.cout).sum = (pre.map Un.cout).sum + (u.cout + (r.map Un.cout).sum) := by rw [h]; simp
    have hs2 : (l.map Un.cin).sum = (pre.map Un.cin).sum + (u.cin + (r.map Un.cin).sum) := by rw [h]; simp
    have ih := opMay_loop l hl r (pre ++ [u]) (by simp [h])
    refine Ev.step (f := fun k => _) (fun k => by rw [op_May.l0, if_pos hlt, if_pos (by omega), if_pos hlt, hrd, w64_succ _ (by omega)]) ?_
    refine Ev.bind (spanMay_is u (hl.ok u (by rw [h]; simp)) (by omega) (by omega)) (ev_if_pos rfl ?_)
    simpa using ih
theorem opMay_is {us : List Un} (h : Ok us) : Ev (fun k => op_May.f k (us.map Un.sp)) 0 := by
  unfold op_May.f
  exact opMay_loop us h us [] rfl
end Go.Proofs.YtkgicpnnlkcaeaaDoor.F
end
section
namespace Go.Proofs.YtkgicpnnlkcaeaaDoor.F
open Go.RowKit Go.Proofs.YtkgicpnnlkcaeaaDoorW.PrintWords Go.Proofs.YtkgicpnnlkcaeaaDoorW.PrintLast Go.Proofs.YtkgicpnnlkcaeaaDoorW.PrintMore
set_option linter.unusedVariables false
set_option linter.unusedSimpArgs false
theorem runs_length : ∀ (r : List Sp) (c : Sp), (runs c r).length ≤ r.length + 1
  | [], c => by simp [runs]
  | t :: r, c => by
    rw [runs]
    split
    · have := runs_length r (joinS c t); simp; omega
    · have := runs_length r t; simp; omega
end Go.Proofs.YtkgicpnnlkcaeaaDoor.F
end
section
namespace Go.Proofs.YtkgicpnnlkcaeaaDoor.F
open Go.RowKit Go.Proofs.YtkgicpnnlkcaeaaDoorW.PrintWords Go.Proofs.YtkgicpnnlkcaeaaDoorW.PrintLast Go.Proofs.YtkgicpnnlkcaeaaDoorW.PrintMore
set_option linter.unusedVariables false
set_option linter.unusedSimpArgs false
inductive U where
  | k
  | d
  | p (r : Int)
deriving DecidableEq
def Un.ex : Un → List U
  | .keep n => List.replicate n .k
  | .put l => l.map .p
  | .drop n => List.replicate n .d
def exU (us : List Un) : List U := us.flatMap Un.ex
theorem exU_cons (u : Un) (us : List Un) : exU (u :: us) = u.ex ++ exU us := by simp [exU]
theorem exU_append (a b : List Un) : exU (a ++ b) = exU a ++ exU b := by simp [exU]
def consU : U → List Un → List Un
  | .k, .keep n :: r => .keep (n + 1) :: r
  | .d, .drop n :: r => .drop (n + 1) :: r
  | .p c, .put l :: r => .put (c :: l) :: r
  | .k, r => .keep 1 :: r
  | .d, r => .drop 1 :: r
  | .p c, r => .put [c] :: r
def canon (x : List U) : List Un := x.foldr consU []
theorem canon_cons (u : U) (x : List U) : canon (u :: x) = consU u (canon x) := rfl
theorem canon_append (a b : List U) : canon (a ++ b) = a.foldr consU (canon b) := by unfold canon; rw [List.foldr_append]
theorem ex_consU (u : U) (c : List Un) : exU (consU u c) = u :: exU c := by
  cases u <;> rcases c with _ | ⟨v, r⟩ <;> first | rfl | (cases v <;> first | rfl | simp [consU, exU, Un.ex, List.replicate_succ])
theorem ex_canon : ∀ x : List U, exU (canon x) = x
  | [] => rfl
  | u :: x => by rw [canon_cons, ex_consU, ex_canon x]
def consUn : Un → List Un → List Un
  | .keep 0, c => c
  | .drop 0, c => c
  | .put [], c => c
  | .keep (n + 1), .keep m :: r => .keep (n + 1 + m) :: r
  | .drop (n + 1), .drop m :: r => .drop (n + 1 + m) :: r
  | .put (a :: l), .put m :: r => .put (a :: l ++ m) :: r
  | .keep (n + 1), c => .keep (n + 1) :: c
  | .drop (n + 1), c => .drop (n + 1) :: c
  | .put (a :: l), c => .put (a :: l) :: c
theorem foldr_keep : ∀ (n : Nat) (c : List Un), (List.replicate n U.k).foldr consU c = consUn (.keep n) c
  | 0, c => rfl
  | n + 1, c => by
    rw [List.replicate_succ, List.foldr_cons, foldr_keep n c]
    cases n with
    | zero => rcases c with _ | ⟨v, r⟩ <;> first | rfl | (cases v <;> first | rfl | simp [consUn, consU, Nat.add_comm])
    | succ n => rcases c with _ | ⟨v, r⟩ <;> first | rfl | (cases v <;> first | rfl | (simp only [consUn, consU]; congr 2; omega))
theorem foldr_drop : ∀ (n : Nat) (c : List Un), (List.replicate n U.d).foldr consU c = consUn (.drop n) c
  | 0, c => rfl
  | n + 1, c => by
    rw [List.replicate_succ, List.foldr_cons, foldr_drop n c]
    cases n with
    | zero => rcases c with _ | ⟨v, r⟩ <;> first | rfl | (cases v <;> first | rfl | simp [consUn, consU, Nat.add_comm])
    | succ n => rcases c with _ | ⟨v, r⟩ <;> first | rfl | (cases v <;> first | rfl | (simp only [consUn, consU]; congr 2; omega))
theorem foldr_put : ∀ (l : List Int) (c : List Un), (l.map U.p).foldr consU c = consUn (.put l) c
  | [], c => rfl
  | a :: l, c => by
    rw [List.map_cons, List.foldr_cons, foldr_put l c]
    cases l with
    | nil => rcases c with _ | ⟨v, r⟩ <;> first | rfl | (cases v <;> rfl)
    | cons b l => rcases c with _ | ⟨v, r⟩ <;> first | rfl | (cases v <;> rfl)
theorem canon_un (u : Un) (x : List U) : canon (u.ex ++ x) = consUn u (canon x) := by
  rw [canon_append]
  cases u with
  | keep n => exact foldr_keep n _
  | put l => exact foldr_put l _
  | drop n => exact foldr_drop n _
def cinU : List U → Nat
  | [] => 0
  | .p _ :: x => cinU x
  | _ :: x => cinU x + 1
def coutU : List U → Nat
  | [] => 0
  | .d :: x => coutU x
  | _ :: x => coutU x + 1
theorem cinU_append : ∀ a b : List U, cinU (a ++ b) = cinU a + cinU b
  | [], b => by simp [cinU]
  | u :: a, b => by cases u <;> simp [cinU, cinU_append a b] <;> omega
theorem coutU_append : ∀ a b : List U, coutU (a ++ b) = coutU a + coutU b
  | [], b => by simp [coutU]
  | u :: a, b => by cases u <;> simp [coutU, coutU_append a b] <;> omega
theorem cinU_un (u : Un) : cinU u.ex = u.cin := by
  cases u with
  | keep n => induction n with
    | zero => rfl
    | succ n ih => simp only [Un.ex, List.replicate_succ, cinU, Un.cin] at *; omega
  | put l => induction l with
    | nil => rfl
    | cons a l ih => simp only [Un.ex, List.map_cons, cinU, Un.cin] at *; omega
  | drop n => induction n with
    | zero => rfl
    | succ n ih => simp only [Un.ex, List.replicate_succ, cinU, Un.cin] at *; omega
theorem coutU_un (u : Un) : coutU u.ex = u.cout := by
  cases u with
  | keep n => induction n with
    | zero => rfl
    | succ n ih => simp only [Un.ex, List.replicate_succ, coutU, Un.cout] at *; omega
  | put l => induction l with
    | nil => rfl
    | cons a l ih => simp only [Un.ex, List.map_cons, coutU, Un.cout, List.length_cons] at *; omega
  | drop n => induction n with
    | zero => rfl
    | succ n ih => simp only [Un.ex, List.replicate_succ, coutU, Un.cout] at *; omega
theorem cinU_ex : ∀ us : List Un, cinU (exU us) = (us.map Un.cin).sum
  | [] => rfl
  | u :: us => by rw [exU_cons, cinU_append, cinU_un, cinU_ex us]; simp
theorem coutU_ex : ∀ us : List Un, coutU (exU us) = (us.map Un.cout).sum
  | [] => rfl
  | u :: us => by rw [exU_cons, coutU_append, coutU_un, coutU_ex us]; simp
theorem bb_none : (⟨#[]⟩ : ByteArray) ++ (⟨#[]⟩ : ByteArray) = ⟨#[]⟩ := by
  apply ByteArray.ext
  simp [ByteArray.data_append]
theorem runs_kind {t c : Sp} {r : List Sp} (h : runs t r = t :: r) (hk : c.f0 = t.f0) : runs c r = c :: r := by
  rcases r with _ | ⟨u, r⟩
  · rfl
  · rw [runs] at h ⊢
    by_cases hu : u.f0 = t.f0
    · rw [if_pos hu] at h
      have := congrArg List.length h
      have h2 := runs_length r (joinS t u)
      simp at this
      omega
    · rw [if_neg hu] at h
      rw [if_neg (by rw [hk]; exact hu)]
      injection h with _ h
      rw [h]
theorem norm_cons (s : Sp) (l : List Sp) : norm (s :: l) = if emptyS s = true then norm l else match norm l with
    | [] => [s]
    | t :: r => if t.f0 = s.f0 then joinS s t :: r else s :: t :: r := by
  cases he : emptyS s with
  | true => simp [norm, he]
  | false =>
    have e : norm (s :: l) = runs s (norm l) := by
      have h1 : norm (s :: l) = mergeS ([s] ++ l.filter (fun s => !emptyS s)) := by simp [norm, he]
      rw [h1, ← merge_right]
      rfl
    rw [e, if_neg (by simp)]
    generalize hn : norm l = m
    rcases m with _ | ⟨t, r⟩
    · rfl
    · have hm : runs t r = t :: r := by
        have : mergeS (t :: r) = t :: r := by
          rw [← hn]
          unfold norm
          generalize l.filter (fun s => !emptyS s) = f
          rcases f with _ | ⟨a, f⟩
          · rfl
          · exact merge_idem f a
        exact this
      simp only
      rw [runs]
      by_cases hk : t.f0 = s.f0
      · rw [if_pos hk, if_pos hk]
        exact runs_kind hm hk.symm
      · rw [if_neg hk, if_neg hk, hm]
theorem empty_keep (n : Nat) : emptyS (Un.keep n).sp = decide (n = 0) := by
  unfold emptyS Un.sp
  have : (⟨#[]⟩ : ByteArray).toList = [] := by rw [ByteArray.toList_eq]
  simp [this]
theorem empty_drop (n : Nat) : emptyS (Un.drop n).sp = decide (n = 0) := by
  unfold emptyS Un.sp
  have : (⟨#[]⟩ : ByteArray).toList = [] := by rw [ByteArray.toList_eq]
  simp [this]
theorem empty_put (l : List Int) : emptyS (Un.put l).sp = decide (l = []) := by
  unfold emptyS Un.sp
  have := encT_none l
  by_cases h : l = [] <;> simp [h, this]
  rw [ByteArray.toList_eq, encT_nil]
theorem join_keep (n m : Nat) (h : n + m ≤ 4611686018427387904) : joinS (Un.keep n).sp (Un.keep m).sp = (Un.keep (n + m)).sp := by
  unfold joinS Un.sp
  simp only [bb_none]
  rw [w64 (by omega) (by omega)]
  congr 1
theorem join_drop (n m : Nat) (h : n + m ≤ 4611686018427387904) : joinS (Un.drop n).sp (Un.drop m).sp = (Un.drop (n + m)).sp := by
  unfold joinS Un.sp
  simp only [bb_none]
  rw [w64 (by omega) (by omega)]
  congr 1
theorem join_put (a b : List Int) : joinS (Un.put a).sp (Un.put b).sp = (Un.put (a ++ b)).sp := by
  unfold joinS Un.sp
  simp only
  rw [encT_append]
  have : wrap64 (0 + 0) = 0 := by unfold wrap64; rfl
  rw [this]
theorem norm_ex : ∀ us : List Un, (us.map Un.cin).sum ≤ 4611686018427387904 → norm (us.map Un.sp) = (canon (exU us)).map Un.sp
  | [], _ => rfl
  | u :: us, h => by
    simp only [List.map_cons, List.sum_cons] at h
    have ih := norm_ex us (by omega)
    have hc : ((canon (exU us)).map Un.cin).sum = (us.map Un.cin).sum := by rw [← cinU_ex, ex_canon, cinU_ex]
    rw [List.map_cons, norm_cons, ih, exU_cons, canon_un]
    generalize canon (exU us) = c at hc
    cases u with
    | keep n =>
      rw [empty_keep]
      cases n with
      | zero => rfl
      | succ n =>
        rw [if_neg (by simp)]
        rcases c with _ | ⟨v, r⟩
        · rfl
        · cases v with
          | keep m =>
            simp only [List.map_cons, List.sum_cons, Un.cin] at hc h
            have := join_keep (n + 1) m (by omega)
            simp only [consUn, List.map_cons]
            rw [if_pos (by rfl), this]
          | put m => simp only [consUn, List.map_cons]; rw [if_neg (by simp [Un.sp])]
          | drop m => simp only [consUn, List.map_cons]; rw [if_neg (by simp [Un.sp])]
    | drop n =>
      rw [empty_drop]
      cases n with
      | zero => rfl
      | succ n =>
        rw [if_neg (by simp)]
        rcases c with _ | ⟨v, r⟩
        · rfl
        · cases v with
          | drop m =>
            simp only [List.map_cons, List.sum_cons, Un.cin] at hc h
            have := join_drop (n + 1) m (by omega)
            simp only [consUn, List.map_cons]
            rw [if_pos (by rfl), this]
          | put m => simp only [consUn, List.map_cons]; rw [if_neg (by simp [Un.sp])]
          | keep m => simp only [consUn, List.map_cons]; rw [if_neg (by simp [Un.sp])]
    | put l =>
      rw [empty_put]
      cases l with
      | nil => rfl
      | cons a l =>
        rw [if_neg (by simp)]
        rcases c with _ | ⟨v, r⟩
        · rfl
        · cases v with
          | put m =>
            have := join_put (a :: l) m
            simp only [consUn, List.map_cons]
            rw [if_pos (by rfl), this]
          | keep m => simp only [consUn, List.map_cons]; rw [if_neg (by simp [Un.sp])]
          | drop m => simp only [consUn, List.map_cons]; rw [if_neg (by simp [Un.sp])]
end Go.Proofs.YtkgicpnnlkcaeaaDoor.F
end
section
namespace Go.Proofs.YtkgicpnnlkcaeaaDoor.F
open Go.RowKit Go.Proofs.YtkgicpnnlkcaeaaDoorW.PrintWords Go.Proofs.YtkgicpnnlkcaeaaDoorW.PrintLast Go.Proofs.YtkgicpnnlkcaeaaDoorW.PrintMore
set_option linter.unusedVariables false
set_option linter.unusedSimpArgs false
def preq (q : List Int) : List (List Int) → List (List Int)
  | [] => [q]
  | p :: ps => (q ++ p) :: ps
def gpP : List U → List (List Int)
  | [] => [[]]
  | .p r :: x => preq [r] (gpP x)
  | .k :: x => [] :: gpP x
  | .d :: x => [] :: gpP x
def gpG : List U → List Bool
  | [] => []
  | .p _ :: x => gpG x
  | .k :: x => false :: gpG x
  | .d :: x => true :: gpG x
def ug (g : Bool) : U := if g = true then .d else .k
def ungp : List (List Int) → List Bool → List U
  | [], _ => []
  | p :: _, [] => p.map .p
  | p :: ps, g :: gs => p.map .p ++ ug g :: ungp ps gs
theorem gpP_ne (x : List U) : gpP x ≠ [] := by
  cases x with
  | nil => simp [gpP]
  | cons u x => cases u <;> simp [gpP, preq] <;> (split <;> simp)
theorem preq_nil {ps : List (List Int)} (h : ps ≠ []) : preq [] ps = ps := by
  cases ps with
  | nil => exact absurd rfl h
  | cons p ps => rfl
theorem preq_preq (a b : List Int) (ps : List (List Int)) : preq a (preq b ps) = preq (a ++ b) ps := by cases ps <;> simp [preq]
theorem preq_length {ps : List (List Int)} (q : List Int) (h : ps ≠ []) : (preq q ps).length = ps.length := by
  cases ps with
  | nil => exact absurd rfl h
  | cons p ps => rfl
theorem gpG_length : ∀ x : List U, (gpG x).length = cinU x
  | [] => rfl
  | .p _ :: x => gpG_length x
  | .k :: x => by simp [gpG, cinU, gpG_length x]
  | .d :: x => by simp [gpG, cinU, gpG_length x]
theorem gpP_length : ∀ x : List U, (gpP x).length = cinU x + 1
  | [] => rfl
  | .p _ :: x => by rw [gpP, preq_length _ (gpP_ne x)]; exact gpP_length x
  | .k :: x => by simp [gpP, cinU, gpP_length x]
  | .d :: x => by simp [gpP, cinU, gpP_length x]
theorem ungp_preq (r : Int) (ps : List (List Int)) (gs : List Bool) (h : ps ≠ []) : ungp (preq [r] ps) gs = .p r :: ungp ps gs := by
  cases ps with
  | nil => exact absurd rfl h
  | cons p ps => cases gs <;> simp [preq, ungp]
theorem ungp_gp : ∀ x : List U, ungp (gpP x) (gpG x) = x
  | [] => rfl
  | .p r :: x => by rw [gpP, gpG, ungp_preq _ _ _ (gpP_ne x), ungp_gp x]
  | .k :: x => by rw [gpP, gpG, ungp, ungp_gp x]; rfl
  | .d :: x => by rw [gpP, gpG, ungp, ungp_gp x]; rfl
theorem gpP_put (p : List Int) (x : List U) : gpP (p.map .p ++ x) = preq p (gpP x) := by
  induction p with
  | nil => exact (preq_nil (gpP_ne x)).symm
  | cons r p ih => rw [List.map_cons, List.cons_append, gpP, ih, preq_preq]; rfl
theorem gpG_put (p : List Int) (x : List U) : gpG (p.map .p ++ x) = gpG x := by
  induction p with
  | nil => rfl
  | cons r p ih => rw [List.map_cons, List.cons_append, gpG, ih]
theorem gpP_keep : ∀ (n : Nat) (x : List U), gpP (List.replicate n .k ++ x) = List.replicate n [] ++ gpP x
  | 0, x => by simp
  | n + 1, x => by rw [List.replicate_succ, List.cons_append, gpP, gpP_keep n x, List.replicate_succ, List.cons_append]
theorem gpP_drop : ∀ (n : Nat) (x : List U), gpP (List.replicate n .d ++ x) = List.replicate n [] ++ gpP x
  | 0, x => by simp
  | n + 1, x => by rw [List.replicate_succ, List.cons_append, gpP, gpP_drop n x, List.replicate_succ, List.cons_append]
theorem gpG_keep : ∀ (n : Nat) (x : List U), gpG (List.replicate n .k ++ x) = List.replicate n false ++ gpG x
  | 0, x => by simp
  | n + 1, x => by rw [List.replicate_succ, List.cons_append, gpG, gpG_keep n x, List.replicate_succ, List.cons_append]
theorem gpG_drop : ∀ (n : Nat) (x : List U), gpG (List.replicate n .d ++ x) = List.replicate n true ++ gpG x
  | 0, x => by simp
  | n + 1, x => by rw [List.replicate_succ, List.cons_append, gpG, gpG_drop n x, List.replicate_succ, List.cons_append]
def cells (B : List (List Int)) (q : List Int) (m : Nat) : List ByteArray := (B ++ q :: List.replicate m []).map encT
theorem cells_get (B : List (List Int)) (q : List Int) (m : Nat) : (cells B q m).getD B.length ⟨#[]⟩ = encT q := by
  unfold cells
  simp [List.getD_eq_getElem?_getD]
theorem cells_set (B : List (List Int)) (q p : List Int) (m : Nat) : (cells B q m).set B.length (encT p) = cells B p m := by
  unfold cells
  simp [List.set_append]
theorem cells_more (B : List (List Int)) (q : List Int) (n m : Nat) (h : n + 1 ≤ m) : cells B q m = cells (B ++ q :: List.replicate n []) [] (m - (n + 1)) := by
  unfold cells
  congr 1
  have e : List.replicate m ([] : List Int) = List.replicate n [] ++ [] :: List.replicate (m - (n + 1)) [] := by
    rw [← List.replicate_succ, List.replicate_append_replicate]
    congr 1
    omega
  rw [e]
  simp
theorem fill_at (C G : List Bool) (n : Nat) (b : Bool) : fillG (C ++ G) C.length n b = C ++ (List.replicate n b ++ G.drop n) := by
  unfold fillG
  simp [List.drop_append]
theorem bytes_none (s : ByteArray) : s ++ ⟨#[]⟩ = s := by
  apply ByteArray.ext
  simp [ByteArray.data_append]
theorem gapsL_is : ∀ (us : List Un) (B : List (List Int)) (q : List Int) (m : Nat) (C G : List Bool), C.length = B.length → B.length + (us.map Un.cin).sum ≤ 512 → (us.map Un.cin).sum ≤ m → (us.map Un.cin).sum ≤ G.length →
    q.length + (us.map Un.cout).sum ≤ 1099511627776 →
    ∃ m' G', gapsL (us.map Un.sp) B.length (cells B q m) (C ++ G) = some ((B ++ preq q (gpP (exU us)) ++ List.replicate m' []).map encT, C ++ gpG (exU us) ++ G')
  | [], B, q, m, C, G, hC, h1, h2, h3, h4 => ⟨m, G, by simp [gapsL, cells, exU, gpP, gpG, preq]⟩
  | u :: us, B, q, m, C, G, hC, h1, h2, h3, h4 => by
    simp only [List.map_cons, List.sum_cons] at h1 h2 h3 h4
    have hsz := (encT_size q).2
    cases u with
    | put l =>
      have h1 : B.length + (0 + (us.map Un.cin).sum) ≤ 512 := h1
      have h2 : 0 + (us.map Un.cin).sum ≤ m := h2
      have h3 : 0 + (us.map Un.cin).sum ≤ G.length := h3
      have h4 : q.length + (l.length + (us.map Un.cout).sum) ≤ 1099511627776 := h4
      have hl := (encT_size l).2
      obtain ⟨m', G', ih⟩ := gapsL_is us B (q ++ l) m C G hC (by omega) (by omega) (by omega) (by simp; omega)
      refine ⟨m', G', ?_⟩
      rw [List.map_cons, gapsL, cells_get]
      rw [show (Un.put l).sp.f1.toNat = 0 from rfl, show (Un.put l).sp.f2 = encT l from rfl, if_pos (by omega), ← encT_append, cells_set, ← hC, fill_at, hC]
      simp only [Nat.add_zero, List.replicate_zero, List.nil_append, List.drop_zero]
      rw [ih, exU_cons]
      rw [show (Un.put l).ex = l.map .p from rfl, gpP_put, gpG_put, preq_preq]
    | keep n =>
      have h1 : B.length + (n + (us.map Un.cin).sum) ≤ 512 := h1
      have h2 : n + (us.map Un.cin).sum ≤ m := h2
      have h3 : n + (us.map Un.cin).sum ≤ G.length := h3
      have h4 : q.length + (n + (us.map Un.cout).sum) ≤ 1099511627776 := h4
      rw [List.map_cons, gapsL, cells_get]
      rw [show (Un.keep n).sp.f1.toNat = n from Int.toNat_natCast n, show (Un.keep n).sp.f2 = ⟨#[]⟩ from rfl, if_pos ⟨by omega, by rw [size_none]; omega⟩, bytes_none, cells_set, ← hC, fill_at, hC, exU_cons]
      rw [show (Un.keep n).ex = List.replicate n .k from rfl, gpP_keep, gpG_keep, show ((Un.keep n).sp.f0 == 3) = false from rfl]
      cases n with
      | zero =>
        obtain ⟨m', G', ih⟩ := gapsL_is us B q m C G hC (by omega) (by omega) (by omega) (by omega)
        exact ⟨m', G', by simpa using ih⟩
      | succ n =>
        obtain ⟨m', G', ih⟩ := gapsL_is us (B ++ q :: List.replicate n []) [] (m - (n + 1)) (C ++ List.replicate (n + 1) false) (G.drop (n + 1)) (by simp [hC]) (by simp; omega) (by omega) (by rw [List.length_drop]; omega) (by simp; omega)
        refine ⟨m', G', ?_⟩
        rw [cells_more _ _ n m (by omega)]
        rw [preq_nil (gpP_ne _)] at ih
        have e : B.length + (n + 1) = (B ++ q :: List.replicate n ([] : List Int)).length := by simp
        rw [e, ← List.append_assoc, ih]
        simp [List.replicate_succ, preq]
    | drop n =>
      have h1 : B.length + (n + (us.map Un.cin).sum) ≤ 512 := h1
      have h2 : n + (us.map Un.cin).sum ≤ m := h2
      have h3 : n + (us.map Un.cin).sum ≤ G.length := h3
      have h4 : q.length + (0 + (us.map Un.cout).sum) ≤ 1099511627776 := h4
      rw [List.map_cons, gapsL, cells_get]
      rw [show (Un.drop n).sp.f1.toNat = n from Int.toNat_natCast n, show (Un.drop n).sp.f2 = ⟨#[]⟩ from rfl, if_pos ⟨by omega, by rw [size_none]; omega⟩, bytes_none, cells_set, ← hC, fill_at, hC, exU_cons]
      rw [show (Un.drop n).ex = List.replicate n .d from rfl, gpP_drop, gpG_drop, show ((Un.drop n).sp.f0 == 3) = true from rfl]
      cases n with
      | zero =>
        obtain ⟨m', G', ih⟩ := gapsL_is us B q m C G hC (by omega) (by omega) (by omega) (by omega)
        exact ⟨m', G', by simpa using ih⟩
      | succ n =>
        obtain ⟨m', G', ih⟩ := gapsL_is us (B ++ q :: List.replicate n []) [] (m - (n + 1)) (C ++ List.replicate (n + 1) true) (G.drop (n + 1)) (by simp [hC]) (by simp; omega) (by omega) (by rw [List.length_drop]; omega) (by simp; omega)
        refine ⟨m', G', ?_⟩
        rw [cells_more _ _ n m (by omega)]
        rw [preq_nil (gpP_ne _)] at ih
        have e : B.length + (n + 1) = (B ++ q :: List.replicate n ([] : List Int)).length := by simp
        rw [e, ← List.append_assoc, ih]
        simp [List.replicate_succ, preq]
theorem gapsOf_is {us : List Un} (h : Ok us) (h5 : (us.map Un.cin).sum ≤ 512) : Ev (fun k => gaps_Of.f k (us.map Un.sp)) ((gpP (exU us)).map encT, gpG (exU us), 0) := by
  have hco := h.cout
  unfold gaps_Of.f
  refine Ev.bind (opMay_is h) (ev_if_pos rfl ?_)
  refine Ev.bind (opIn_is h) (ev_if_neg (by omega) (ev_if_pos (by omega) ?_))
  obtain ⟨m', G', e⟩ := gapsL_is us [] [] 512 [] (List.replicate 512 false) rfl (by rw [List.length_nil]; omega) h5 (by rw [List.length_replicate]; exact h5) (by rw [List.length_nil]; omega)
  have e1 : cells [] [] 512 = List.replicate 513 ⟨#[]⟩ := by
    unfold cells
    rw [List.nil_append, ← List.replicate_succ, List.map_replicate, encT_nil]
  rw [e1] at e
  simp only [List.length_nil, List.nil_append] at e
  rw [preq_nil (gpP_ne _)] at e
  refine ev_some e ?_
  rw [Int.toNat_natCast]
  have l1 : ((gpP (exU us)).map encT).length = (us.map Un.cin).sum + 1 := by rw [List.length_map, gpP_length, cinU_ex]
  have l2 : (gpG (exU us)).length = (us.map Un.cin).sum := by rw [gpG_length, cinU_ex]
  have t1 : ((gpP (exU us) ++ List.replicate m' []).map encT).take ((us.map Un.cin).sum + 1) = (gpP (exU us)).map encT := by
    rw [List.map_append, List.take_left' l1]
  have t2 : (gpG (exU us) ++ G').take (us.map Un.cin).sum = gpG (exU us) := List.take_left' l2
  simp only [t1, t2]
  exact Ev.now _
end Go.Proofs.YtkgicpnnlkcaeaaDoor.F
end
section
namespace Go.Proofs.YtkgicpnnlkcaeaaDoor.F
open Go.RowKit Go.Proofs.YtkgicpnnlkcaeaaDoorW.PrintWords Go.Proofs.YtkgicpnnlkcaeaaDoorW.PrintLast Go.Proofs.YtkgicpnnlkcaeaaDoorW.PrintMore
set_option linter.unusedVariables false
set_option linter.unusedSimpArgs false
def kindU : Un → Nat
  | .keep _ => 1
  | .put _ => 2
  | .drop _ => 3
def joinU : Un → Un → Un
  | .keep n, .keep m => .keep (n + m)
  | .put a, .put b => .put (a ++ b)
  | .drop n, .drop m => .drop (n + m)
  | u, _ => u
def fullU : Un → Bool
  | .keep n => n != 0
  | .put l => l != []
  | .drop n => n != 0
def snocUn : List Un → Un → List Un
  | [], u => [u]
  | [v], u => if kindU v = kindU u then [joinU v u] else [v, u]
  | v :: w :: r, u => v :: snocUn (w :: r) u
theorem snocUn_cons (v w : Un) (r : List Un) (u : Un) : snocUn (v :: w :: r) u = v :: snocUn (w :: r) u := rfl
theorem snocUn_ne (c : List Un) (u : Un) : ∃ v r, snocUn c u = v :: r := by
  match c with
  | [] => exact ⟨_, _, rfl⟩
  | [v] =>
    rw [snocUn]
    split
    · exact ⟨_, _, rfl⟩
    · exact ⟨_, _, rfl⟩
  | v :: w :: r => exact ⟨_, _, rfl⟩
theorem snocUn_last (q : List Un) (v u : Un) : snocUn (q ++ [v]) u = q ++ snocUn [v] u := by
  induction q with
  | nil => rfl
  | cons a q ih =>
    cases q with
    | nil => rfl
    | cons b q => exact congrArg (a :: ·) ih
theorem canon_ex {u : Un} (h : fullU u = true) : canon u.ex = [u] := by
  have := canon_un u []
  rw [List.append_nil] at this
  rw [this]
  cases u with
  | keep n => cases n with
    | zero => simp [fullU] at h
    | succ n => rfl
  | put l => cases l with
    | nil => simp [fullU] at h
    | cons a l => rfl
  | drop n => cases n with
    | zero => simp [fullU] at h
    | succ n => rfl
theorem consU_two (t : U) (v w : Un) (r : List Un) : ∃ a, consU t (v :: w :: r) = a ++ w :: r ∧ (∀ x y, consU t (v :: x :: y) = a ++ x :: y) := by
  cases t <;> cases v <;> first | exact ⟨[_], rfl, fun _ _ => rfl⟩ | exact ⟨[_, _], rfl, fun _ _ => rfl⟩
theorem consU_snoc (t : U) (c : List Un) (u : Un) (hu : fullU u = true) : consU t (snocUn c u) = snocUn (consU t c) u := by
  match c with
  | [] =>
    cases t <;> cases u <;> simp [snocUn, consU, kindU, joinU, Nat.add_comm]
  | [v] =>
    cases t <;> cases v <;> cases u <;> simp [snocUn, consU, kindU, joinU] <;> omega
  | v :: w :: r =>
    obtain ⟨a, e1, e2⟩ := consU_two t v w r
    obtain ⟨x, y, e3⟩ := snocUn_ne (w :: r) u
    rw [snocUn_cons, e3, e2, e1, ← e3]
    clear e1 e2 e3
    induction a with
    | nil => rfl
    | cons b a ih =>
      cases a with
      | nil => rfl
      | cons b2 a => exact congrArg (b :: ·) ih
theorem canon_snoc : ∀ (y : List U) (u : Un), fullU u = true → canon (y ++ u.ex) = snocUn (canon y) u
  | [], u, h => canon_ex h
  | t :: y, u, h => by rw [List.cons_append, canon_cons, canon_snoc y u h, canon_cons, consU_snoc _ _ _ h]
theorem canon_out : ∀ y : List U, ((canon y).map Un.cout).sum = coutU y := fun y => by rw [← coutU_ex, ex_canon]
theorem canon_in : ∀ y : List U, ((canon y).map Un.cin).sum = cinU y := fun y => by rw [← cinU_ex, ex_canon]
theorem consU_length (t : U) (c : List Un) : (consU t c).length ≤ c.length + 1 ∧ c.length ≤ (consU t c).length := by
  rcases c with _ | ⟨v, r⟩
  · cases t <;> simp [consU]
  · cases t <;> cases v <;> simp [consU] <;> omega
theorem canon_length : ∀ y : List U, (canon y).length ≤ y.length
  | [] => Nat.le_refl _
  | t :: y => by
    rw [canon_cons]
    have := (consU_length t (canon y)).1
    have := canon_length y
    simp only [List.length_cons]
    omega
theorem length_two : ∀ y : List U, y.length ≤ cinU y + coutU y
  | [] => Nat.zero_le _
  | t :: y => by
    have := length_two y
    cases t <;> simp only [cinU, coutU, List.length_cons] <;> omega
def RunesU (y : List U) : Prop := ∀ r, U.p r ∈ y → isRune r
theorem RunesU.append {a b : List U} (ha : RunesU a) (hb : RunesU b) : RunesU (a ++ b) := fun r h => (List.mem_append.1 h).elim (ha r) (hb r)
theorem RunesU.tail {t : U} {y : List U} (h : RunesU (t :: y)) : RunesU y := fun r hr => h r (by simp [hr])
theorem RunesU.put {l : List Int} (h : Runes l) : RunesU (l.map .p) := by
  intro r hr
  obtain ⟨x, hx, e⟩ := List.mem_map.1 hr
  injection e with e
  rw [← e]
  exact h x hx
theorem runesU_ex : ∀ us : List Un, (∀ u ∈ us, u.ok) → RunesU (exU us)
  | [], _ => fun r h => by cases h
  | u :: us, h => by
    rw [exU_cons]
    refine RunesU.append ?_ (runesU_ex us (fun v hv => h v (by simp [hv])))
    cases u with
    | keep n => intro r hr; have := List.eq_of_mem_replicate hr; cases this
    | put l => exact RunesU.put (h (.put l) (by simp))
    | drop n => intro r hr; have := List.eq_of_mem_replicate hr; cases this
theorem ok_canon : ∀ y : List U, RunesU y → ∀ u ∈ canon y, u.ok
  | [], _, u, hu => by cases hu
  | t :: y, h, u, hu => by
    have ih := ok_canon y h.tail
    rw [canon_cons] at hu
    generalize canon y = c at ih hu
    cases t with
    | k =>
      rcases c with _ | ⟨v, r⟩
      · simp [consU] at hu; subst hu; trivial
      · cases v <;> simp [consU] at hu <;> rcases hu with rfl | hu <;> first | trivial | exact ih _ (by simp [hu]) | (rcases hu with rfl | hu <;> exact ih _ (by simp [*]))
    | d =>
      rcases c with _ | ⟨v, r⟩
      · simp [consU] at hu; subst hu; trivial
      · cases v <;> simp [consU] at hu <;> rcases hu with rfl | hu <;> first | trivial | exact ih _ (by simp [hu]) | (rcases hu with rfl | hu <;> exact ih _ (by simp [*]))
    | p a =>
      have ha : isRune a := h a (by simp)
      have h1 : Runes [a] := by intro x hx; simp at hx; subst hx; exact ha
      rcases c with _ | ⟨v, r⟩
      · simp [consU] at hu; subst hu; exact h1
      · cases v with
        | put m =>
          simp [consU] at hu
          rcases hu with rfl | hu
          · exact Runes.append h1 (ih (.put m) (by simp))
          · exact ih _ (by simp [hu])
        | keep n =>
          simp [consU] at hu
          rcases hu with rfl | rfl | hu
          · exact h1
          · trivial
          · exact ih _ (by simp [hu])
        | drop n =>
          simp [consU] at hu
          rcases hu with rfl | rfl | hu
          · exact h1
          · trivial
          · exact ih _ (by simp [hu])
theorem canon_ok {y : List U} (h : RunesU y) (h1 : cinU y ≤ 1048576) (h2 : coutU y ≤ 1048576) : Ok (canon y) := by
  have := canon_length y
  have := length_two y
  exact ⟨ok_canon y h, by omega, by rw [canon_in]; exact h1, by rw [canon_out]; omega⟩
theorem addW_is (c : List Un) (u : Un) (hc : c.length ≤ 1099511627776) (h1 : (c.map Un.cin).sum + u.cin ≤ 1099511627776) (h2 : (c.map Un.cout).sum + u.cout ≤ 1099511627776) :
    addW (c.map Un.sp) u.sp.f0 u.sp.f1 u.sp.f2 = some (((if fullU u = true then snocUn c u else c)).map Un.sp) := by
  unfold addW
  rw [if_pos (by rw [List.length_map]; omega)]
  unfold addW0
  have he : (u.sp.f1 = 0 ∧ u.sp.f2.toList = []) ↔ ¬ fullU u = true := by
    have hn : (⟨#[]⟩ : ByteArray).toList = [] := by rw [ByteArray.toList_eq]
    cases u with
    | keep n => simp [Un.sp, fullU, hn]
    | drop n => simp [Un.sp, fullU, hn]
    | put l => have := encT_none l; simp [Un.sp, fullU, this]
  by_cases hf : fullU u = true
  · rw [if_neg (by rw [he]; exact fun h => h hf), if_pos hf]
    rcases snoc_cases c with rfl | ⟨q, v, rfl⟩
    · rw [if_neg (by simp), if_pos (by simp)]
      rfl
    · have hl : (((q ++ [v]).map Un.sp).length : Int) - 1 = (((q.map Un.sp).length : Nat) : Int) := by simp
      have hrd : rd_T33 ((q ++ [v]).map Un.sp) ((((q ++ [v]).map Un.sp).length : Int) - 1) = v.sp := by
        rw [hl, List.map_append]
        exact rdS_at rfl
      have hset : ∀ x, ((q ++ [v]).map Un.sp).set (((q ++ [v]).map Un.sp).length - 1) x = q.map Un.sp ++ [x] := by
        intro x
        simp [List.set_append]
      have hkind : v.sp.f0 = u.sp.f0 ↔ kindU v = kindU u := by cases v <;> cases u <;> simp [Un.sp, kindU]
      simp only [List.map_append, List.map_cons, List.map_nil, List.sum_append, List.sum_cons, List.sum_nil] at h1 h2
      rw [hrd, hset, snocUn_last]
      by_cases hk : kindU v = kindU u
      · rw [if_pos ⟨by simp, hkind.2 hk⟩]
        have hz : v.sp.f2.size + u.sp.f2.size ≤ 9223372036854775807 := by
          have s : ∀ x : Un, x.sp.f2.size ≤ 4 * x.cout := by
            intro x
            cases x with
            | put l => exact (encT_size l).2
            | keep n => exact Nat.zero_le _
            | drop n => exact Nat.zero_le _
          have := s v
          have := s u
          omega
        rw [if_pos hz]
        have hj : (⟨v.sp.f0, wrap64 (v.sp.f1 + u.sp.f1), v.sp.f2 ++ u.sp.f2⟩ : Sp) = (joinU v u).sp := by
          cases v <;> cases u <;> simp [kindU] at hk
          · simp only [Un.cin] at h1
            exact join_keep _ _ (by omega)
          · exact join_put _ _
          · simp only [Un.cin] at h1
            exact join_drop _ _ (by omega)
        rw [hj, show snocUn [v] u = [joinU v u] by rw [snocUn, if_pos hk]]
        simp
      · rw [if_neg (fun h => hk (hkind.1 h.2)), if_pos (by rw [List.length_map]; omega), show snocUn [v] u = [v, u] by rw [snocUn, if_neg hk]]
        simp
  · rw [if_pos (he.2 hf), if_neg hf]
theorem addW_canon (y : List U) (u : Un) (hy : cinU y + u.cin ≤ 1099511 ∧ coutU y + u.cout ≤ 1099511) : addW ((canon y).map Un.sp) u.sp.f0 u.sp.f1 u.sp.f2 = some ((canon (y ++ u.ex)).map Un.sp) := by
  have h1 := canon_length y
  have h2 := length_two y
  rw [addW_is _ _ (by omega) (by rw [canon_in]; omega) (by rw [canon_out]; omega)]
  by_cases hf : fullU u = true
  · rw [if_pos hf, canon_snoc y u hf]
  · rw [if_neg hf]
    have : u.ex = [] := by
      cases u with
      | keep n => simp [fullU] at hf; subst hf; rfl
      | put l => simp [fullU] at hf; subst hf; rfl
      | drop n => simp [fullU] at hf; subst hf; rfl
    rw [this, List.append_nil]
theorem spansL_is : ∀ (ps : List (List Int)) (gs : List Bool) (y : List U), ps.length = gs.length + 1 → (∀ p ∈ ps, Runes p) → cinU y + gs.length ≤ 1000000 → coutU y + gs.length + (ps.map List.length).sum ≤ 1000000 →
    spansL (ps.map encT) gs ((canon y).map Un.sp) = some ((canon (y ++ ungp ps gs)).map Un.sp, 0)
  | [], gs, y, h, _, _, _ => by simp at h
  | [p], [], y, h, hr, h1, h2 => by
    simp only [List.map_cons, List.map_nil, List.sum_cons, List.sum_nil, List.length_nil] at h2 h1
    have := addW_canon y (.put p) ⟨by show cinU y + 0 ≤ _; omega, by show coutU y + p.length ≤ _; omega⟩
    rw [List.map_cons, List.map_nil, spansL, validStr_enc p (hr p (by simp)) (by omega), Option.bind_some, if_pos rfl]
    rw [show addW ((canon y).map Un.sp) 2 0 (encT p) = _ from this, Option.bind_some, spansL]
    rfl
  | p :: q :: ps, [], y, h, _, _, _ => by simp at h
  | p :: ps, g :: gs, y, h, hr, h1, h2 => by
    simp only [List.map_cons, List.sum_cons, List.length_cons] at h2 h1 h
    have a1 := addW_canon y (.put p) ⟨by show cinU y + 0 ≤ _; omega, by show coutU y + p.length ≤ _; omega⟩
    have e1 : cinU (p.map U.p) = 0 := cinU_un (.put p)
    have e2 : coutU (p.map U.p) = p.length := coutU_un (.put p)
    have e3 : cinU [ug g] = 1 := by cases g <;> rfl
    have e4 : coutU [ug g] ≤ 1 := by cases g <;> simp [ug, coutU]
    have c1 := cinU_append y (p.map U.p)
    have c2 := coutU_append y (p.map U.p)
    have c3 := cinU_append (y ++ p.map U.p) [ug g]
    have c4 := coutU_append (y ++ p.map U.p) [ug g]
    have a2 : addW ((canon (y ++ p.map U.p)).map Un.sp) (if g = true then 3 else 1) 1 ⟨#[]⟩ = some ((canon (y ++ p.map U.p ++ [ug g])).map Un.sp) := by
      cases g
      · exact addW_canon (y ++ p.map U.p) (.keep 1) ⟨by show _ + 1 ≤ _; omega, by show _ + 1 ≤ _; omega⟩
      · exact addW_canon (y ++ p.map U.p) (.drop 1) ⟨by show _ + 1 ≤ _; omega, by show _ + 0 ≤ _; omega⟩
    rw [List.map_cons, spansL, validStr_enc p (hr p (by simp)) (by omega), Option.bind_some, if_pos rfl]
    rw [show addW ((canon y).map Un.sp) 2 0 (encT p) = _ from a1, Option.bind_some, show canon (y ++ (Un.put p).ex) = canon (y ++ p.map U.p) from rfl, a2, Option.bind_some]
    rw [spansL_is ps gs _ (by omega) (fun x hx => hr x (by simp [hx])) (by omega) (by omega)]
    simp [ungp]
theorem spansOf_is (ps : List (List Int)) (gs : List Bool) (h : ps.length = gs.length + 1) (hr : ∀ p ∈ ps, Runes p) (h1 : gs.length ≤ 512) (h2 : (ps.map List.length).sum ≤ 900000) :
    gaps_Spans.f (ps.map encT) gs = some ((canon (ungp ps gs)).map Un.sp, 0) := by
  unfold gaps_Spans.f
  rw [if_pos (by omega), if_pos (by rw [List.length_map]; exact h), if_pos h1]
  have := spansL_is ps gs [] h hr (by show 0 + _ ≤ _; omega) (by show 0 + _ + _ ≤ _; omega)
  exact this
theorem gpP_runes : ∀ x : List U, RunesU x → ∀ p ∈ gpP x, Runes p
  | [], _, p, hp => by simp [gpP] at hp; subst hp; exact Runes.nil
  | .p r :: x, h, p, hp => by
    have ih := gpP_runes x h.tail
    have hne := gpP_ne x
    rw [gpP] at hp
    generalize gpP x = c at *
    rcases c with _ | ⟨a, c⟩
    · exact absurd rfl hne
    · simp only [preq] at hp
      rcases List.mem_cons.1 hp with rfl | hp
      · exact Runes.append (by intro z hz; simp at hz; subst hz; exact h z (by simp)) (ih a (by simp))
      · exact ih p (by simp [hp])
  | .k :: x, h, p, hp => by
    rw [gpP] at hp
    rcases List.mem_cons.1 hp with rfl | hp
    · exact Runes.nil
    · exact gpP_runes x h.tail p hp
  | .d :: x, h, p, hp => by
    rw [gpP] at hp
    rcases List.mem_cons.1 hp with rfl | hp
    · exact Runes.nil
    · exact gpP_runes x h.tail p hp
theorem gpP_sum : ∀ x : List U, ((gpP x).map List.length).sum ≤ coutU x
  | [] => Nat.le_refl _
  | .p r :: x => by
    have ih := gpP_sum x
    have hne := gpP_ne x
    rw [gpP, show coutU (U.p r :: x) = coutU x + 1 from rfl]
    generalize gpP x = c at *
    rcases c with _ | ⟨a, c⟩
    · exact absurd rfl hne
    · simp [preq] at ih ⊢; omega
  | .k :: x => by have := gpP_sum x; simp [gpP, coutU]; omega
  | .d :: x => by have := gpP_sum x; simp [gpP, coutU]; omega
theorem spansBack_is {x : List U} (hr : RunesU x) (h1 : cinU x ≤ 512) (h2 : coutU x ≤ 900000) : gaps_Spans.f ((gpP x).map encT) (gpG x) = some ((canon x).map Un.sp, 0) := by
  have := gpP_sum x
  rw [spansOf_is _ _ (by rw [gpP_length, gpG_length]) (gpP_runes x hr) (by rw [gpG_length]; exact h1) (by omega), ungp_gp]
theorem encT_inj {a b : List Int} (ha : Runes a) (hb : Runes b) (h : encT a = encT b) : a = b := by
  have h1 := runesL_enc a ha
  have h2 := runesL_enc b hb
  rw [h] at h1
  exact h1.symm.trans h2
theorem map_encT_inj : ∀ {a b : List (List Int)}, (∀ p ∈ a, Runes p) → (∀ p ∈ b, Runes p) → a.map encT = b.map encT → a = b
  | [], [], _, _, _ => rfl
  | [], q :: b, _, _, h => by simp at h
  | p :: a, [], _, _, h => by simp at h
  | p :: a, q :: b, ha, hb, h => by
    simp only [List.map_cons] at h
    injection h with h1 h2
    rw [encT_inj (ha p (by simp)) (hb q (by simp)) h1, map_encT_inj (fun x hx => ha x (by simp [hx])) (fun x hx => hb x (by simp [hx])) h2]
theorem sp_inj {u v : Un} (hu : u.ok) (hv : v.ok) (h : u.sp = v.sp) : u = v := by
  cases u <;> cases v <;> simp [Un.sp] at h
  · exact congrArg Un.keep (by omega)
  · rw [encT_inj hu hv h]
  · exact congrArg Un.drop (by omega)
theorem map_sp_inj : ∀ {a b : List Un}, (∀ u ∈ a, u.ok) → (∀ u ∈ b, u.ok) → a.map Un.sp = b.map Un.sp → a = b
  | [], [], _, _, _ => rfl
  | [], q :: b, _, _, h => by simp at h
  | p :: a, [], _, _, h => by simp at h
  | p :: a, q :: b, ha, hb, h => by
    simp only [List.map_cons] at h
    injection h with h1 h2
    rw [sp_inj (ha p (by simp)) (hb q (by simp)) h1, map_sp_inj (fun x hx => ha x (by simp [hx])) (fun x hx => hb x (by simp [hx])) h2]
theorem canon_inj {x y : List U} (hx : RunesU x) (hy : RunesU y) : (canon x).map Un.sp = (canon y).map Un.sp ↔ x = y := by
  constructor
  · intro h
    have := map_sp_inj (ok_canon x hx) (ok_canon y hy) h
    rw [← ex_canon x, ← ex_canon y, this]
  · intro h
    rw [h]
theorem gp_inj {x y : List U} (hx : RunesU x) (hy : RunesU y) : ((gpP x).map encT = (gpP y).map encT ∧ gpG x = gpG y) ↔ x = y := by
  constructor
  · rintro ⟨h1, h2⟩
    have := map_encT_inj (gpP_runes x hx) (gpP_runes y hy) h1
    rw [← ungp_gp x, ← ungp_gp y, this, h2]
  · intro h
    rw [h]
    exact ⟨rfl, rfl⟩
end Go.Proofs.YtkgicpnnlkcaeaaDoor.F
end
section
namespace Go.Proofs.YtkgicpnnlkcaeaaDoor.F
open Go.RowKit Go.Proofs.YtkgicpnnlkcaeaaDoorW.PrintWords Go.Proofs.YtkgicpnnlkcaeaaDoorW.PrintLast Go.Proofs.YtkgicpnnlkcaeaaDoorW.PrintMore
set_option linter.unusedVariables false
set_option linter.unusedSimpArgs false
theorem toList_inj {a b : ByteArray} (h : a.toList = b.toList) : a = b := by
  rw [ByteArray.toList_eq, ByteArray.toList_eq] at h
  apply ByteArray.ext
  exact Array.ext' h
theorem rdB_at (l : List ByteArray) (pre r : List ByteArray) (c : ByteArray) (h : l = pre ++ c :: r) : rdOf ByteArray.empty l (pre.length : Int) = c := by
  subst h
  unfold rdOf
  simp [List.getD_eq_getElem?_getD]
theorem rdG_at (l : List Bool) (pre r : List Bool) (c : Bool) (h : l = pre ++ c :: r) : rdOf false l (pre.length : Int) = c := by
  subst h
  unfold rdOf
  simp [List.getD_eq_getElem?_getD]
theorem same6_l1 (x0 y0 : List ByteArray) (a b : List Bool) (hl : a.length = b.length) (hm : a.length ≤ 4611686018427387904) : ∀ (r q pre pre2 : List Bool), a = pre ++ r → b = pre2 ++ q → pre.length = pre2.length →
    Ev (fun k => epitomeref06_Same.l1 k (pre.length : Int) x0 a y0 b) (decide (r = q))
  | [], q, pre, pre2, h1, h2, h3 => by
    have hq : q = [] := by
      have := congrArg List.length h1
      have := congrArg List.length h2
      simp at *
      exact List.eq_nil_of_length_eq_zero (by omega)
    subst hq
    refine Ev.step (f := fun _ => some true) (fun k => ?_) (by simpa using Ev.now true)
    rw [epitomeref06_Same.l1, if_neg (by subst h1; simp)]
  | t :: r, q, pre, pre2, h1, h2, h3 => by
    have e1 : a.length = pre.length + (r.length + 1) := by rw [h1]; simp
    have e2 : b.length = pre2.length + q.length := by rw [h2]; simp
    rcases q with _ | ⟨u, q⟩
    · simp at e2; omega
    have ra := rdG_at a pre r t h1
    have rb := rdG_at b pre2 q u h2
    rw [← h3] at rb
    have ih := same6_l1 x0 y0 a b hl hm r q (pre ++ [t]) (pre2 ++ [u]) (by simp [h1]) (by simp [h2]) (by simp [h3])
    by_cases htu : t = u
    · subst htu
      rw [show decide (t :: r = t :: q) = decide (r = q) by simp]
      refine Ev.step (fun k => ?_) ih
      rw [epitomeref06_Same.l1, if_pos (by omega), if_pos (by omega), if_pos (by omega), ra, rb, if_neg (by simp), w64_succ _ (by omega)]
      simp
    · rw [show decide (t :: r = u :: q) = false by simp [htu]]
      refine Ev.step (f := fun _ => some false) (fun k => ?_) (Ev.now _)
      rw [epitomeref06_Same.l1, if_pos (by omega), if_pos (by omega), if_pos (by omega), ra, rb, if_pos (by simp [htu])]
theorem same6_l0 (x1 y1 : List Bool) (a b : List ByteArray) (v : Bool) (hl : a.length = b.length) (hm : a.length ≤ 4611686018427387904) (hv : Ev (fun k => epitomeref06_Same.l1 k 0 a x1 b y1) v) : ∀ (r q pre pre2 : List ByteArray), a = pre ++ r → b = pre2 ++ q → pre.length = pre2.length →
    Ev (fun k => epitomeref06_Same.l0 k (pre.length : Int) a x1 b y1) (decide (r = q) && v)
  | [], q, pre, pre2, h1, h2, h3 => by
    have hq : q = [] := by
      have := congrArg List.length h1
      have := congrArg List.length h2
      simp at *
      exact List.eq_nil_of_length_eq_zero (by omega)
    subst hq
    refine Ev.step (fun k => ?_) (by simpa using hv)
    rw [epitomeref06_Same.l0, if_neg (by subst h1; simp)]
  | t :: r, q, pre, pre2, h1, h2, h3 => by
    have e1 : a.length = pre.length + (r.length + 1) := by rw [h1]; simp
    have e2 : b.length = pre2.length + q.length := by rw [h2]; simp
    rcases q with _ | ⟨u, q⟩
    · simp at e2; omega
    have ra := rdB_at a pre r t h1
    have rb := rdB_at b pre2 q u h2
    rw [← h3] at rb
    have ih := same6_l0 x1 y1 a b v hl hm hv r q (pre ++ [t]) (pre2 ++ [u]) (by simp [h1]) (by simp [h2]) (by simp [h3])
    by_cases htu : t = u
    · subst htu
      rw [show decide (t :: r = t :: q) = decide (r = q) by simp]
      refine Ev.step (fun k => ?_) ih
      rw [epitomeref06_Same.l0, if_pos (by omega), if_pos (by omega), if_pos (by omega), ra, rb, if_pos rfl, w64_succ _ (by omega)]
      simp
    · rw [show (decide (t :: r = u :: q) && v) = false by simp [htu]]
      refine Ev.step (f := fun _ => some false) (fun k => ?_) (Ev.now _)
      rw [epitomeref06_Same.l0, if_pos (by omega), if_pos (by omega), if_pos (by omega), ra, rb, if_neg (fun h => htu (toList_inj h))]
theorem same6_is (a b : List ByteArray) (g h : List Bool) (hm : a.length ≤ 4611686018427387904) (hg : g.length ≤ 4611686018427387904) :
    Ev (fun k => epitomeref06_Same.f k a g b h) (decide (a = b ∧ g = h)) := by
  have no : ∀ {w : Bool}, w = false → Ev (fun k => epitomeref06_Same.j0 k true a g b h) w := by
    rintro _ rfl
    refine Ev.step (f := fun _ => some false) (fun k => ?_) (Ev.now _)
    rw [epitomeref06_Same.j0, if_pos rfl]
  unfold epitomeref06_Same.f
  by_cases h1 : (a.length : Int) = (b.length : Int)
  · refine ev_if_pos h1 ?_
    by_cases h2 : g.length = h.length
    · rw [show ((g.length : Int) != (h.length : Int)) = false by simp [h2]]
      refine Ev.step (f := fun k => epitomeref06_Same.l0 k 0 a g b h) (fun k => by rw [epitomeref06_Same.j0, if_neg (by simp)]) ?_
      have v := same6_l1 a b g h h2 hg g h [] [] rfl rfl rfl
      have := same6_l0 g h a b _ (by omega) hm v a b [] [] rfl rfl rfl
      rw [show decide (a = b ∧ g = h) = (decide (a = b) && decide (g = h)) from Bool.decide_and _ _]
      exact this
    · rw [show ((g.length : Int) != (h.length : Int)) = true by simp; omega]
      refine no ?_
      simp
      intro _ e
      exact h2 (by rw [e])
  · refine ev_if_neg h1 (no ?_)
    simp
    intro e
    exact absurd (by rw [e]) h1
theorem same6_gp {x y : List U} (hx : RunesU x) (hy : RunesU y) (h1 : cinU x ≤ 512) : Ev (fun k => epitomeref06_Same.f k ((gpP x).map encT) (gpG x) ((gpP y).map encT) (gpG y)) (decide (x = y)) := by
  have := same6_is ((gpP x).map encT) ((gpP y).map encT) (gpG x) (gpG y) (by rw [List.length_map, gpP_length]; omega) (by rw [gpG_length]; omega)
  rwa [show decide ((gpP x).map encT = (gpP y).map encT ∧ gpG x = gpG y) = decide (x = y) from decide_eq_decide.2 (gp_inj hx hy)] at this
structure FitU (us : List Un) (n : Nat) : Prop where
  ok : Ok us
  few : ∀ u ∈ us, u.few
  len : us.length ≤ 13
  cin : (us.map Un.cin).sum = n
  cinU : cinU (exU us) = n
  cout : (us.map Un.cout).sum ≤ 819
  coutU : coutU (exU us) ≤ 819
  runes : RunesU (exU us)
theorem made_fit {us : List Un} {n : Nat} (h : Made us n) (hn : n ≤ 1048576) : FitU us n := by
  have h1 := made_ok h hn
  have h2 := cout_few us h.few
  have h3 := h.len
  refine ⟨h1, h.few, h3, h.cin, by rw [cinU_ex]; exact h.cin, by omega, by rw [coutU_ex]; omega, runesU_ex us h1.ok⟩
theorem normalFit_is {us : List Un} {n : Nat} (h : FitU us n) (hn : n ≤ 1048576) : Ev (fun k => normal_Of.f k (us.map Un.sp)) ((canon (exU us)).map Un.sp) := by
  have h1 := h.len
  have h2 := h.cin
  have := sizeS_few us h.few
  rw [← norm_ex us (by omega)]
  exact normal_is _ (by rw [List.length_map]; omega) (by omega)
end Go.Proofs.YtkgicpnnlkcaeaaDoor.F
end
section
namespace Go.Proofs.YtkgicpnnlkcaeaaDoor.F
open Go.RowKit Go.Proofs.YtkgicpnnlkcaeaaDoorW.PrintWords Go.Proofs.YtkgicpnnlkcaeaaDoorW.PrintLast Go.Proofs.YtkgicpnnlkcaeaaDoorW.PrintMore
set_option linter.unusedVariables false
set_option linter.unusedSimpArgs false
theorem bools_of_struct {H : Type} {enc : TypeId × Value → H} {P : Program} {w : World} {base : Nat} {sp : Nat → Bool} {held : Bool} {fuel : Nat} {t : TypeId} {fs : Array Field} {cs : List Value} {zs : List Bool} {p : List MemPlace} (ht : P.underlying t = some (.struct fs))
    (hf : ∀ (i : Nat) (f : Field), fs[i]? = some f → P.underlying f.type = some .bool ∧ f.offset = i ∧ P.cellsOf f.type = 1) (hct : P.cellsOf t = fs.size)
    (h : DataW.trod enc P w base sp held fuel t cs = some (.agg (zs.map fun z => .lit (.bool z)), p)) : cs = zs.map fun z => Value.bool z := by
  obtain ⟨xs, n, rfl, hx, hl, hxl, hall⟩ := DataW.trod_struct ht h
  have hxs : xs.map (·.1) = zs.map fun z => (DataW.lit (.bool z) : DataW H) := by
    have := congrArg Prod.fst hx
    simpa using this.symm
  have hzl : zs.length = fs.size := by
    have := congrArg List.length hxs
    simp at this
    omega
  apply List.ext_getElem?
  intro i
  by_cases hi : i < fs.size
  · obtain ⟨hu, ho, hc⟩ := hf i fs[i] (by simp [hi])
    have h1 := hall i fs[i] (by simp [hi])
    obtain ⟨b, hb⟩ : ∃ b, xs[i]? = some b := ⟨xs[i]'(by omega), List.getElem?_eq_getElem (by omega)⟩
    rw [hb, ho, hc] at h1
    obtain ⟨z, hcz, rfl⟩ := DataW.trod_bool hu h1
    have h2 : cs[i]? = some (.bool z) := by
      have := congrArg (·[0]?) hcz
      simpa [List.getElem?_take, List.getElem?_drop] using this
    have h3 : (xs.map (·.1))[i]? = some (DataW.lit (.bool z) : DataW H) := by simp [hb]
    rw [hxs] at h3
    simp only [List.getElem?_map, Option.map_eq_some_iff, DataW.lit.injEq, Lit.bool.injEq] at h3
    obtain ⟨z', hz', rfl⟩ := h3
    simp [h2, hz']
  · rw [List.getElem?_eq_none (by omega), List.getElem?_eq_none (by simp; omega)]
theorem kinds_of_reads {W : World} (h : Lib.VarReads Tryd.prog W "epitome/span.kinds" Rows.laid_epitome_span_kinds) (i : Nat) (hi : i < 4) :
    W.cell? ⟨0, 2 * i, none⟩ = some (.bool (decide (i = 1 ∨ i = 3))) ∧ W.cell? ⟨0, 2 * i + 1, none⟩ = some (.bool (decide (i = 1))) := by
  obtain ⟨g, t, cs, fuel, p, hg, hty, hvar, hd⟩ := h
  have n0 : Tryd.prog.globalNamed "epitome/span.kinds" = some 0 := by kernel_rfl
  have y0 : (Tryd.prog.globals[0]?).map (·.type) = some 97 := by kernel_rfl
  have c4 : Tryd.prog.cellsOf 4 = 1 := by kernel_rfl
  have c90 : Tryd.prog.cellsOf 90 = 2 := by kernel_rfl
  obtain rfl := Option.some.inj (n0.symm.trans hg)
  obtain rfl := Option.some.inj (y0.symm.trans hty)
  obtain ⟨fuel', d, q, hdi, he⟩ := Lib.array_elem Tryd.underlying97 hd i hi
  have hdd : d = .agg ([decide (i = 1 ∨ i = 3), decide (i = 1)].map fun z => .lit (.bool z)) := by
    have : i = 0 ∨ i = 1 ∨ i = 2 ∨ i = 3 := by omega
    rcases this with rfl | rfl | rfl | rfl <;> (simp at hdi; exact hdi.symm)
  rw [hdd, c90] at he
  have hcs := bools_of_struct Tryd.underlying90 (fun j f hj => by
    match j, hj with
    | 0, hj => simp at hj; subst hj; exact ⟨Tryd.underlying4, rfl, c4⟩
    | 1, hj => simp at hj; subst hj; exact ⟨Tryd.underlying4, rfl, c4⟩
    | j + 2, hj => simp at hj) (by rw [c90]; rfl) he
  have e0 := congrArg (·[0]?) hcs
  have e1 := congrArg (·[1]?) hcs
  simp only [List.getElem?_take, List.getElem?_drop] at e0 e1
  constructor
  · rw [World.var?_cell n0 hvar (2 * i), ← Array.getElem?_toList]
    simpa [Nat.mul_comm] using e0
  · rw [World.var?_cell n0 hvar (2 * i + 1), ← Array.getElem?_toList]
    simpa [Nat.mul_comm] using e1
theorem accept_eq : (Rows.laid_unicode_utf8_acceptRanges : DataW Unit) = Lib.acceptData := by kernel_rfl
theorem first_eq : Rows.laid_unicode_utf8_first = Lib.firstData := by kernel_rfl
theorem glob_of_reads {W : World} (h1 : Lib.VarReads Tryd.prog W "unicode/utf8.first" Rows.laid_unicode_utf8_first) (h2 : Lib.VarReads Tryd.prog W "unicode/utf8.acceptRanges" Rows.laid_unicode_utf8_acceptRanges)
    (h3 : Lib.VarReads Tryd.prog W "epitome/span.kinds" Rows.laid_epitome_span_kinds) : Glob W := by
  rw [first_eq] at h1
  rw [accept_eq] at h2
  have k1 := kinds_of_reads h3 1 (by decide)
  have k2 := kinds_of_reads h3 2 (by decide)
  have k3 := kinds_of_reads h3 3 (by decide)
  exact ⟨k1.1, k1.2, k2.1, k2.2, k3.1, k3.2, utf8Tabs_of_readsT (Go.Proofs.U8Types.of196 Tryd.laysValid) ⟨by kernel_rfl, by kernel_rfl, by kernel_rfl, by kernel_rfl, by kernel_rfl, by kernel_rfl, by kernel_rfl⟩ h1 h2⟩
noncomputable def laidWorld (os : Os) : World :=
  let w0 := World.holding Tryd.prog os ⟨#[], #[], []⟩
  let put (h : Array Obj) (g : Nat) (cs : Array Value) : Array Obj := h.modify g fun
    | .cells _ t frozen => .cells cs t frozen
    | o => o
  let h1 := put w0.heap 0 #[.bool false, .bool false, .bool true, .bool true, .bool false, .bool false, .bool true, .bool false]
  let h2 := put h1 1 (Lib.firstTab.map fun z => Value.int .u8 z).toArray
  let h3 := put h2 2 ((List.range 16).flatMap fun i => [Value.int .u8 (Lib.accLo i), Value.int .u8 (Lib.accHi i)]).toArray
  { w0 with heap := h3 }
end Go.Proofs.YtkgicpnnlkcaeaaDoor.F
end
section
namespace Go.Proofs.YtkgicpnnlkcaeaaDoor.F
open Go.RowKit Go.Proofs.YtkgicpnnlkcaeaaDoorW.PrintWords Go.Proofs.YtkgicpnnlkcaeaaDoorW.PrintLast Go.Proofs.YtkgicpnnlkcaeaaDoorW.PrintMore
attribute [local go_sem] max2_int min2_int max_two min_two max_three min_three max_four min_four cell_setCell_isSome
set_option linter.unusedVariables false
set_option linter.unusedSimpArgs false
def apply_To.l0 : Nat → List Int → List Int → List (S33) → Int → Int → Option (ByteArray × Int)
  | 0, _, _, _, _, _ => none
  | k + 1, x8, x9, x29, x30, x31 => if x31 < x30 then (if 0 ≤ x31 then (if x31 < (x29.length : Int) then (if ((rd_T33 x29 x31).f0) = 2 then ((str_runes.f ((rd_T33 x29 x31).f2)).bind fun t110 => (if x9.length + t110.length < 35184372088832 then (if 0 ≤ ((rd_T33 x29 x31).f1) then (if ((rd_T33 x29 x31).f1) ≤ (x8.length : Int) then (apply_To.l0 k (x8.drop (((rd_T33 x29 x31).f1) : Int).toNat) (x9 ++ t110) x29 x30 (wrap64 (x31 + 1))) else (none)) else (none)) else (none))) else (if ((rd_T33 x29 x31).f0) = 1 then (if 0 ≤ ((rd_T33 x29 x31).f1) then (if ((rd_T33 x29 x31).f1) ≤ (x8.length : Int) then ((some (x8.take (((rd_T33 x29 x31).f1) : Int).toNat : List Int)).bind fun y119 => (if x9.length + y119.length < 35184372088832 then (apply_To.l0 k (x8.drop (((rd_T33 x29 x31).f1) : Int).toNat) (x9 ++ y119) x29 x30 (wrap64 (x31 + 1))) else (none))) else (none)) else (none)) else (if 0 ≤ ((rd_T33 x29 x31).f1) then (if ((rd_T33 x29 x31).f1) ≤ (x8.length : Int) then (apply_To.l0 k (x8.drop (((rd_T33 x29 x31).f1) : Int).toNat) x9 x29 x30 (wrap64 (x31 + 1))) else (none)) else (none)))) else (none)) else (none)) else ((runes_str.f x9).bind fun t107 => (some (t107, 0)))
def apply_To.f (k : Nat) (l0 : List (S33)) (a1 : ByteArray) : Option (ByteArray × Int) := (op_May.f k l0).bind fun t101 => (if t101 = 0 then ((points_Count.f a1).bind fun t102 => (if t102 < 0 then (some ((⟨#[]⟩ : ByteArray), 3)) else ((op_In.f k l0).bind fun t103 => (if t102 = t103 then ((str_runes.f a1).bind fun t104 => (apply_To.l0 k t104 ([] : List Int) l0 (l0.length : Int) 0)) else (some ((⟨#[]⟩ : ByteArray), 5)))))) else (some ((⟨#[]⟩ : ByteArray), t101)))
set_option maxHeartbeats 8000000 in
set_option maxRecDepth 100000 in
theorem apply_To.calls (k : Nat) (A0 : Option Addr) (c0 : Nat) (l0 : List (S33)) (a1 : ByteArray) (r1 : ByteArray) (r2 : Int) (w : World) (hG : Glob w) (hr0 : Kd.C k33 w A0 l0.length l0) (hc0 : l0.length ≤ c0) (h : apply_To.f k l0 a1 = some (r1, r2)) :
    Calls Tryd.prog 22 #[.slice A0 l0.length c0, .string a1] w fun e w' => e = .returned (.tuple #[.string r1, .int .i64 r2]) ∧ Below w.heap.size w w' := by
  have hu33 := Tryd.underlying33
  have HG := Aside0.mk hG
  clear hG
  have HR0 := Aside0.mk hr0
  have HC0 := Aside0.mk hc0
  clear hr0 hc0
  have HB := Aside0.mk (Below.refl w.heap.size w)
  have H : ((op_May.f k l0).bind fun t101 => (if t101 = 0 then ((points_Count.f a1).bind fun t102 => (if t102 < 0 then (some ((⟨#[]⟩ : ByteArray), 3)) else ((op_In.f k l0).bind fun t103 => (if t102 = t103 then ((str_runes.f a1).bind fun t104 => (apply_To.l0 k t104 ([] : List Int) l0 (l0.length : Int) 0)) else (some ((⟨#[]⟩ : ByteArray), 5)))))) else (some ((⟨#[]⟩ : ByteArray), t101)))) = some (r1, r2) := h
  clear h
  replace H := Option.bind_eq_some_iff.mp H
  obtain ⟨t101, A30, H⟩ := H
  replace H : (if t101 = 0 then ((points_Count.f a1).bind fun t102 => (if t102 < 0 then (some ((⟨#[]⟩ : ByteArray), 3)) else ((op_In.f k l0).bind fun t103 => (if t102 = t103 then ((str_runes.f a1).bind fun t104 => (apply_To.l0 k t104 ([] : List Int) l0 (l0.length : Int) 0)) else (some ((⟨#[]⟩ : ByteArray), 5)))))) else (some ((⟨#[]⟩ : ByteArray), t101))) = some (r1, r2) := H
  have A3 := Aside0.mk A30
  clear A30
  by_cases c4 : t101 = 0
  · rw [if_pos c4] at H
    have c4b0 : (t101 == 0) = true := beq_iff_eq.mpr c4
    have c4b1 : (t101 != 0) = false := bne_eq_false_iff_eq.mpr c4
    clear c4
    replace H := Option.bind_eq_some_iff.mp H
    obtain ⟨t102, A50, H⟩ := H
    replace H : (if t102 < 0 then (some ((⟨#[]⟩ : ByteArray), 3)) else ((op_In.f k l0).bind fun t103 => (if t102 = t103 then ((str_runes.f a1).bind fun t104 => (apply_To.l0 k t104 ([] : List Int) l0 (l0.length : Int) 0)) else (some ((⟨#[]⟩ : ByteArray), 5))))) = some (r1, r2) := H
    have A5 := Aside0.mk A50
    clear A50
    by_cases c6 : t102 < 0
    · rw [if_pos c6] at H
      have c6b0 : decide (t102 < 0) = true := decide_eq_true c6
      clear c6
      simp only [Option.some.injEq, Prod.mk.injEq] at H
      obtain ⟨rfl, rfl⟩ := H
      go_enter Tryd.func22, Tryd.ntmps22
      go_wp2_with (first | ((with_reducible refine gate_callee (f := 42) rfl ?_); refine goesL_ (some 13) rfl rfl Tryd.func42 (by kernel_rfl) rfl #[.slice A0 l0.length c0] rfl (by (try simp only [List.map_toArray, List.map_cons, List.map_nil]); first | done | rfl | (simp only [List.length_drop, List.length_take]; rfl)) ?_; (with_reducible refine (op_May.calls k _ _ l0 t101 _ ?side1 ?side2 ?side3 A3.out).mono ?_); (case side1 => first | (with_reducible exact HG.out) | exact Glob.below HG.out (by repeat (first | (with_reducible first | exact HB.out | apply below_alloc | apply pw_below_drewN | apply below_drew1) | exact HB.out)) | exact Glob.drawn HG.out (by repeat (first | exact Drawn0.refl _ | apply Drawn0.step))); (case side2 => repeat (first | exact HR0.out | (with_reducible refine Kd.C_alloc ?_ _) | (with_reducible refine Kd.C_drewN ?_ _) | (with_reducible refine Kd.C_drew ?_))); (case side3 => exact HC0.out); rintro e w7 ⟨rfl, hb⟩; refine ⟨_, rfl, ?_⟩; have n0_ := Aside0.mk (below_step (by repeat (first | (with_reducible first | exact HB.out | apply below_alloc | apply pw_below_drewN | apply below_drew1) | exact HB.out)) hb); clear HB; have HB := n0_; clear n0_; (try clear hb); (try clear hb2); (try clear hk); (try clear hi)) | ((with_reducible refine gate_callee (f := 25) rfl ?_); refine goesL_ (some 18) rfl rfl Tryd.func25 (by kernel_rfl) rfl #[.string a1] rfl (by (try simp only [List.map_toArray, List.map_cons, List.map_nil]); first | done | rfl | (simp only [List.length_drop, List.length_take]; rfl)) ?_; (with_reducible refine (points_Count.calls a1 t102 _ ?side1 A5.out).mono ?_); (case side1 => first | (with_reducible exact HG.out) | exact Glob.below HG.out (by repeat (first | (with_reducible first | exact HB.out | apply below_alloc | apply pw_below_drewN | apply below_drew1) | exact HB.out)) | exact Glob.drawn HG.out (by repeat (first | exact Drawn0.refl _ | apply Drawn0.step))); rintro e w8 ⟨rfl, hb⟩; refine ⟨_, rfl, ?_⟩; have n0_ := Aside0.mk (below_step (by repeat (first | (with_reducible first | exact HB.out | apply below_alloc | apply pw_below_drewN | apply below_drew1) | exact HB.out)) hb); clear HB; have HB := n0_; clear n0_; (try clear hb); (try clear hb2); (try clear hk); (try clear hi)))
      go_ret2
      exact ⟨by first | rfl | (simp [errW_none, errW_some] <;> rfl) | (simp [*, errW_none, errW_some] <;> rfl), by repeat (first | (with_reducible first | exact HB.out | apply below_alloc | apply pw_below_drewN | apply below_drew1) | exact HB.out)⟩
    · rw [if_neg c6] at H
      have c6b0 : decide (t102 < 0) = false := decide_eq_false c6
      clear c6
      replace H := Option.bind_eq_some_iff.mp H
      obtain ⟨t103, A90, H⟩ := H
      replace H : (if t102 = t103 then ((str_runes.f a1).bind fun t104 => (apply_To.l0 k t104 ([] : List Int) l0 (l0.length : Int) 0)) else (some ((⟨#[]⟩ : ByteArray), 5))) = some (r1, r2) := H
      have A9 := Aside0.mk A90
      clear A90
      by_cases c10 : t102 = t103
      · rw [if_pos c10] at H
        have c10b0 : (t102 == t103) = true := beq_iff_eq.mpr c10
        have c10b1 : (t102 != t103) = false := bne_eq_false_iff_eq.mpr c10
        clear c10
        replace H := Option.bind_eq_some_iff.mp H
        obtain ⟨t104, A110, H⟩ := H
        replace H : (apply_To.l0 k t104 ([] : List Int) l0 (l0.length : Int) 0) = some (r1, r2) := H
        have A11 := Aside0.mk A110
        clear A110
        have H' := Aside0.mk H
        clear H
        go_enter Tryd.func22, Tryd.ntmps22
        go_wp2_with (first | ((with_reducible refine gate_callee (f := 42) rfl ?_); refine goesL_ (some 13) rfl rfl Tryd.func42 (by kernel_rfl) rfl #[.slice A0 l0.length c0] rfl (by (try simp only [List.map_toArray, List.map_cons, List.map_nil]); first | done | rfl | (simp only [List.length_drop, List.length_take]; rfl)) ?_; (with_reducible refine (op_May.calls k _ _ l0 t101 _ ?side1 ?side2 ?side3 A3.out).mono ?_); (case side1 => first | (with_reducible exact HG.out) | exact Glob.below HG.out (by repeat (first | (with_reducible first | exact HB.out | apply below_alloc | apply pw_below_drewN | apply below_drew1) | exact HB.out)) | exact Glob.drawn HG.out (by repeat (first | exact Drawn0.refl _ | apply Drawn0.step))); (case side2 => repeat (first | exact HR0.out | (with_reducible refine Kd.C_alloc ?_ _) | (with_reducible refine Kd.C_drewN ?_ _) | (with_reducible refine Kd.C_drew ?_))); (case side3 => exact HC0.out); rintro e w12 ⟨rfl, hb⟩; refine ⟨_, rfl, ?_⟩; have n0_ := Aside0.mk (below_step (by repeat (first | (with_reducible first | exact HB.out | apply below_alloc | apply pw_below_drewN | apply below_drew1) | exact HB.out)) hb); clear HB; have HB := n0_; clear n0_; (try clear hb); (try clear hb2); (try clear hk); (try clear hi)) | ((with_reducible refine gate_callee (f := 25) rfl ?_); refine goesL_ (some 18) rfl rfl Tryd.func25 (by kernel_rfl) rfl #[.string a1] rfl (by (try simp only [List.map_toArray, List.map_cons, List.map_nil]); first | done | rfl | (simp only [List.length_drop, List.length_take]; rfl)) ?_; (with_reducible refine (points_Count.calls a1 t102 _ ?side1 A5.out).mono ?_); (case side1 => first | (with_reducible exact HG.out) | exact Glob.below HG.out (by repeat (first | (with_reducible first | exact HB.out | apply below_alloc | apply pw_below_drewN | apply below_drew1) | exact HB.out)) | exact Glob.drawn HG.out (by repeat (first | exact Drawn0.refl _ | apply Drawn0.step))); rintro e w13 ⟨rfl, hb⟩; refine ⟨_, rfl, ?_⟩; have n0_ := Aside0.mk (below_step (by repeat (first | (with_reducible first | exact HB.out | apply below_alloc | apply pw_below_drewN | apply below_drew1) | exact HB.out)) hb); clear HB; have HB := n0_; clear n0_; (try clear hb); (try clear hb2); (try clear hk); (try clear hi)) | ((with_reducible refine gate_callee (f := 20) rfl ?_); refine goesL_ (some 25) rfl rfl Tryd.func20 (by kernel_rfl) rfl #[.slice A0 l0.length c0] rfl (by (try simp only [List.map_toArray, List.map_cons, List.map_nil]); first | done | rfl | (simp only [List.length_drop, List.length_take]; rfl)) ?_; (with_reducible refine (op_In.calls k _ _ l0 t103 _ ?side1 ?side2 ?side3 A9.out).mono ?_); (case side1 => first | (with_reducible exact HG.out) | exact Glob.below HG.out (by repeat (first | (with_reducible first | exact HB.out | apply below_alloc | apply pw_below_drewN | apply below_drew1) | exact HB.out)) | exact Glob.drawn HG.out (by repeat (first | exact Drawn0.refl _ | apply Drawn0.step))); (case side2 => repeat (first | exact (Kd.C_below HR0.out HB.out) | (with_reducible refine Kd.C_alloc ?_ _) | (with_reducible refine Kd.C_drewN ?_ _) | (with_reducible refine Kd.C_drew ?_))); (case side3 => exact HC0.out); rintro e w14 ⟨rfl, hb⟩; refine ⟨_, rfl, ?_⟩; have n0_ := Aside0.mk (below_step (by repeat (first | (with_reducible first | exact HB.out | apply below_alloc | apply pw_below_drewN | apply below_drew1) | exact HB.out)) hb); clear HB; have HB := n0_; clear n0_; (try clear hb); (try clear hb2); (try clear hk); (try clear hi)) | ((with_reducible refine gate_convert (s := 9) (t := 67) rfl ?_); refine goesC_ (some 28) rfl rfl (.string a1) rfl (by first | rfl | assumption | (simp only [List.length_drop, List.length_take]; rfl)) ?_; (with_reducible refine (str_runes.calls a1 t104 _ A11.out).mono ?_); rintro e w15 ⟨v105, rfl, ho0, hb⟩; refine ⟨_, rfl, ?_⟩; have n0_ := Aside0.mk (Kd.R_lower ho0 (below_size (by repeat (first | (with_reducible first | exact HB.out | apply below_alloc | apply pw_below_drewN | apply below_drew1) | exact HB.out)))); have n1_ := Aside0.mk (below_step (by repeat (first | (with_reducible first | exact HB.out | apply below_alloc | apply pw_below_drewN | apply below_drew1) | exact HB.out)) hb); clear HB; have HO106 := n0_; have HB := n1_; clear n0_ n1_; (try clear hb); (try clear hb2); (try clear hk); (try clear hi); (try clear ho0)))
        go_loopg [8, 9, 31] k (fun kq v8 v9 v31 w' => ∃ (x8_1 : List Int) (x9_1 : List Int) (x31_1 : Int), v31 = .int .i64 x31_1 ∧ Aside0 (apply_To.l0 kq x8_1 x9_1 l0 (l0.length : Int) x31_1 = some (r1, r2)) ∧ Aside0 (kq ≤ k) ∧ Aside0 (Kd.Q (Kd.int .i32) 21 w' w.heap.size (fun k_ => some k_ ≠ (v9 : Value).ownBlock) v8 x8_1) ∧ Aside0 (Kd.R (Kd.int .i32) 21 w' w.heap.size (fun k_ => some k_ ≠ (v8 : Value).ownBlock) v9 x9_1) ∧ Aside0 (Below w.heap.size w w'))
        case atStart => exact ⟨(t104), (([] : List Int)), (0), (by first | rfl | (simp; done) | (simp [*]; done)), H', ⟨Nat.le_refl _⟩, ⟨Kd.Q_of_R (by (with_reducible repeat (first | apply Kd.R_alloc | apply Kd.R_drewN | apply Kd.R_drew)); exact Kd.R_mono HO106.out (fun _ hk => (by simp [Value.ownBlock])))⟩, ⟨by first | exact Kd.R_nil _ _ _ _ _ | exact Kd.N_nil _ _ _ _ _ | exact Kd.V_nil _ _ _ _ _ | exact Kd.Q_nil _ _ _ _ _ | exact Kd.S_nil _ _ _ _ _⟩, ⟨by repeat (first | (with_reducible first | exact HB.out | apply below_alloc | apply pw_below_drewN | apply below_drew1) | exact HB.out)⟩⟩
        case round =>
          clear H'
          try clear c1
          try clear c2
          try clear p2
          try clear c4
          try clear c4b0
          try clear c4b1
          try clear c6
          try clear c6b0
          try clear c9
          try clear c10
          try clear c10b0
          try clear c10b1
          obtain ⟨x8_1, x9_1, x31_1, rfl, HA, HK1, HO_8, HO_9, HB⟩ := hrel
          cases gk with
          | zero => exact absurd HA.out (by simp [apply_To.l0])
          | succ k1 =>
            have H := HA.out
            clear HA
            simp only [apply_To.l0] at H
            by_cases c16 : x31_1 < (l0.length : Int)
            · rw [if_pos c16] at H
              have c16b0 : decide (x31_1 < (l0.length : Int)) = true := decide_eq_true c16
              clear c16
              by_cases c17 : 0 ≤ x31_1
              · rw [if_pos c17] at H
                have c17b0 : decide (0 ≤ x31_1) = true := decide_eq_true c17
                clear c17
                by_cases c18 : x31_1 < (l0.length : Int)
                · rw [if_pos c18] at H
                  have c18b0 : decide (x31_1 < (l0.length : Int)) = true := decide_eq_true c18
                  clear c18
                  by_cases c19 : ((rd_T33 l0 x31_1).f0) = 2
                  · rw [if_pos c19] at H
                    have c19b0 : (((rd_T33 l0 x31_1).f0) == 2) = true := beq_iff_eq.mpr c19
                    have c19b1 : (((rd_T33 l0 x31_1).f0) != 2) = false := bne_eq_false_iff_eq.mpr c19
                    clear c19
                    replace H := Option.bind_eq_some_iff.mp H
                    obtain ⟨t110, A200, H⟩ := H
                    replace H : (if x9_1.length + t110.length < 35184372088832 then (if 0 ≤ ((rd_T33 l0 x31_1).f1) then (if ((rd_T33 l0 x31_1).f1) ≤ (x8_1.length : Int) then (apply_To.l0 k1 (x8_1.drop (((rd_T33 l0 x31_1).f1) : Int).toNat) (x9_1 ++ t110) l0 (l0.length : Int) (wrap64 (x31_1 + 1))) else (none)) else (none)) else (none)) = some (r1, r2) := H
                    have A20 := Aside0.mk A200
                    clear A200
                    by_cases c21 : x9_1.length + t110.length < 35184372088832
                    · rw [if_pos c21] at H
                      have LMc21 := Aside0.mk c21
                      clear c21
                      obtain ⟨y113, hy113⟩ : ∃ y_ : List Int, y_ = (x9_1 ++ t110) := ⟨_, rfl⟩
                      replace H : (if 0 ≤ ((rd_T33 l0 x31_1).f1) then (if ((rd_T33 l0 x31_1).f1) ≤ (x8_1.length : Int) then (apply_To.l0 k1 (x8_1.drop (((rd_T33 l0 x31_1).f1) : Int).toNat) y113 l0 (l0.length : Int) (wrap64 (x31_1 + 1))) else (none)) else (none)) = some (r1, r2) := by first | (rw [hy113]; with_reducible exact H) | (have H2_ := (Option.bind_some _ _).symm.trans H; rw [hy113]; with_reducible exact H2_) | (have H2_ := (Option.bind_some _ _).symm.trans H; with_reducible exact H2_) | with_reducible exact H | (rw [hy113]; exact H) | exact H
                      have Ny113 := Aside0.mk hy113
                      clear hy113
                      by_cases c22 : 0 ≤ ((rd_T33 l0 x31_1).f1)
                      · rw [if_pos c22] at H
                        have c22b0 := eq_true c22
                        have c22b1 : decide (0 ≤ ((rd_T33 l0 x31_1).f1)) = true := decide_eq_true c22
                        clear c22
                        by_cases c23 : ((rd_T33 l0 x31_1).f1) ≤ (x8_1.length : Int)
                        · rw [if_pos c23] at H
                          have c23b0 := eq_true c23
                          have c23b1 : decide (((rd_T33 l0 x31_1).f1) ≤ (x8_1.length : Int)) = true := decide_eq_true c23
                          clear c23
                          obtain ⟨y116, hy116⟩ : ∃ y_ : List Int, y_ = (x8_1.drop (((rd_T33 l0 x31_1).f1) : Int).toNat) := ⟨_, rfl⟩
                          replace H : (apply_To.l0 k1 y116 y113 l0 (l0.length : Int) (wrap64 (x31_1 + 1))) = some (r1, r2) := by first | (rw [hy116]; with_reducible exact H) | (have H2_ := (Option.bind_some _ _).symm.trans H; rw [hy116]; with_reducible exact H2_) | (have H2_ := (Option.bind_some _ _).symm.trans H; with_reducible exact H2_) | with_reducible exact H | (rw [hy116]; exact H) | exact H
                          have Ny116 := Aside0.mk hy116
                          clear hy116
                          have H' := Aside0.mk H
                          clear H
                          have p108 : 0 ≤ (x31_1 : Int) := of_decide_eq_true (by first | (with_reducible assumption) | assumption)
                          have q108 : x31_1 < (l0.length : Int) := of_decide_eq_true (by first | (with_reducible assumption) | assumption)
                          obtain ⟨ad108, e108, hx108_0, hx108_1, hx108_2⟩ := at_T33 HR0.out x31_1 p108 q108
                          cases e108
                          replace hx108_0 := (HB.out.cell (World.block_lt_of_cell? w _ hx108_0)).trans hx108_0
                          replace hx108_1 := (HB.out.cell (World.block_lt_of_cell? w _ hx108_1)).trans hx108_1
                          replace hx108_2 := (HB.out.cell (World.block_lt_of_cell? w _ hx108_2)).trans hx108_2
                          replace p108 := eq_true p108
                          replace q108 := eq_true q108
                          go_wp2_with (first | ((with_reducible refine gate_dst (N := 11) rfl ?_); refine box_event ?hg (N := 11) ?hd (cs := #[.int .i64 0, .int .i64 0, .string (⟨#[]⟩ : ByteArray)]) (t := 33) ?hr ?_; (case hd => rfl); (case hg => rfl); (case hr => first | (go_simp; done) | (go_simp; rfl)); intro gb109 hg w24 hbox hb; have n0_ := Aside0.mk (Kd.Q_below (by (with_reducible repeat (first | apply Kd.Q_alloc | apply Kd.Q_drewN | apply Kd.Q_drew)); exact HO_8.out) hb); have n1_ := Aside0.mk (Kd.R_below (by (with_reducible repeat (first | apply Kd.R_alloc | apply Kd.R_drewN | apply Kd.R_drew)); exact HO_9.out) hb); have n2_ := Aside0.mk (below_step (by repeat (first | (with_reducible first | exact HB.out | apply below_alloc | apply pw_below_drewN | apply below_drew1) | exact HB.out)) hb); have n3_ := Aside0.mk (hbox); have n4_ := Aside0.mk ((by rw [hg]; exact (below_size (by repeat (first | (with_reducible first | exact HB.out | apply below_alloc | apply pw_below_drewN | apply below_drew1) | exact HB.out))) : w.heap.size ≤ gb109)); have n5_ := Aside0.mk ((by rw [hg]; exact (below_size (by repeat (first | (with_reducible first | exact HB.out | apply below_alloc | apply pw_below_drewN | apply below_drew1) | exact HB.out))) : w.heap.size ≤ gb109)); clear HO_8; clear HO_9; clear HB; have HO_8 := n0_; have HO_9 := n1_; have HB := n2_; have BK109 := n3_; have GW109 := n4_; have GE109 := n5_; clear n0_ n1_ n2_ n3_ n4_ n5_; clear hb hbox hg; have hcz25_0 : w24.cell? ⟨gb109, 0, none⟩ = some (.int .i64 0) := (blk_cell BK109.out 0).trans rfl; have hcz25_1 : w24.cell? ⟨gb109, 1, none⟩ = some (.int .i64 0) := (blk_cell BK109.out 1).trans rfl; have hcz25_2 : w24.cell? ⟨gb109, 2, none⟩ = some (.string (⟨#[]⟩ : ByteArray)) := (blk_cell BK109.out 2).trans rfl; have hfz25_0 := blk_frozen BK109.out 0; have hfz25_1 := blk_frozen BK109.out 1; have hfz25_2 := blk_frozen BK109.out 2) | ((with_reducible refine gate_convert (s := 9) (t := 67) rfl ?_); refine goesC_ (some 42) rfl rfl (.string ((rd_T33 l0 x31_1).f2)) rfl (by first | rfl | assumption | (simp only [List.length_drop, List.length_take]; rfl)) ?_; (with_reducible refine (str_runes.calls ((rd_T33 l0 x31_1).f2) t110 _ A20.out).mono ?_); rintro e w26 ⟨v111, rfl, ho0, hb⟩; refine ⟨_, rfl, ?_⟩; have n0_ := Aside0.mk (Kd.Q_elder' (by (with_reducible repeat (first | apply Kd.Q_alloc | apply Kd.Q_drewN | apply Kd.Q_drew)); exact (Kd.Q_mono (Kd.Q_far (p := ⟨gb109, 2, none⟩) (Kd.Q_far (p := ⟨gb109, 1, none⟩) (Kd.Q_far (p := ⟨gb109, 0, none⟩) (Kd.Q_types HO_8.out BK109.out (by decide)) (fun _ hk => hk.2) (.int .i64 ((rd_T33 l0 x31_1).f0))) (fun _ hk => hk.2) (.int .i64 ((rd_T33 l0 x31_1).f1))) (fun _ hk => hk.2) (.string ((rd_T33 l0 x31_1).f2))) (fun _ h_ => h_.1))) (Kd.R_base ho0) hb); have n1_ := Aside0.mk (Kd.R_elder' (by (with_reducible repeat (first | apply Kd.R_alloc | apply Kd.R_drewN | apply Kd.R_drew)); exact (Kd.R_mono (Kd.R_far (p := ⟨gb109, 2, none⟩) (Kd.R_far (p := ⟨gb109, 1, none⟩) (Kd.R_far (p := ⟨gb109, 0, none⟩) (Kd.R_types HO_9.out BK109.out (by decide)) (fun _ hk => hk.2) (.int .i64 ((rd_T33 l0 x31_1).f0))) (fun _ hk => hk.2) (.int .i64 ((rd_T33 l0 x31_1).f1))) (fun _ hk => hk.2) (.string ((rd_T33 l0 x31_1).f2))) (fun _ h_ => h_.1))) (Kd.R_base ho0) hb); have n2_ := Aside0.mk (Kd.R_lower (Kd.R_new' (Kd.R_new' ho0 (Kd.Q_lt (by (with_reducible repeat (first | apply Kd.Q_alloc | apply Kd.Q_drewN | apply Kd.Q_drew)); exact (Kd.Q_mono (Kd.Q_far (p := ⟨gb109, 2, none⟩) (Kd.Q_far (p := ⟨gb109, 1, none⟩) (Kd.Q_far (p := ⟨gb109, 0, none⟩) (Kd.Q_types HO_8.out BK109.out (by decide)) (fun _ hk => hk.2) (.int .i64 ((rd_T33 l0 x31_1).f0))) (fun _ hk => hk.2) (.int .i64 ((rd_T33 l0 x31_1).f1))) (fun _ hk => hk.2) (.string ((rd_T33 l0 x31_1).f2))) (fun _ h_ => h_.1))))) (Kd.R_lt (by (with_reducible repeat (first | apply Kd.R_alloc | apply Kd.R_drewN | apply Kd.R_drew)); exact (Kd.R_mono (Kd.R_far (p := ⟨gb109, 2, none⟩) (Kd.R_far (p := ⟨gb109, 1, none⟩) (Kd.R_far (p := ⟨gb109, 0, none⟩) (Kd.R_types HO_9.out BK109.out (by decide)) (fun _ hk => hk.2) (.int .i64 ((rd_T33 l0 x31_1).f0))) (fun _ hk => hk.2) (.int .i64 ((rd_T33 l0 x31_1).f1))) (fun _ hk => hk.2) (.string ((rd_T33 l0 x31_1).f2))) (fun _ h_ => h_.1))))) (below_size (by repeat (first | (with_reducible first | exact HB.out | apply below_alloc | apply pw_below_drewN | apply below_drew1 | refine below_set ?_ GE109.out) | exact HB.out)))); have n3_ := Aside0.mk (blk_below (g := gb109) (o := .cells #[.int .i64 ((rd_T33 l0 x31_1).f0), .int .i64 ((rd_T33 l0 x31_1).f1), .string ((rd_T33 l0 x31_1).f2)] 33 (0, 0)) (by (with_reducible repeat (first | refine blk_drewN ?_ _ | refine blk_drew ?_ | refine blk_alloc ?_ _)); refine blk_put (cs := #[.int .i64 ((rd_T33 l0 x31_1).f0), .int .i64 ((rd_T33 l0 x31_1).f1), .string (⟨#[]⟩ : ByteArray)]) ?_ 2 _ rfl; (with_reducible repeat (first | refine blk_drewN ?_ _ | refine blk_drew ?_ | refine blk_alloc ?_ _)); refine blk_put (cs := #[.int .i64 ((rd_T33 l0 x31_1).f0), .int .i64 0, .string (⟨#[]⟩ : ByteArray)]) ?_ 1 _ rfl; (with_reducible repeat (first | refine blk_drewN ?_ _ | refine blk_drew ?_ | refine blk_alloc ?_ _)); refine blk_put (cs := #[.int .i64 0, .int .i64 0, .string (⟨#[]⟩ : ByteArray)]) ?_ 0 _ rfl; (with_reducible repeat (first | refine blk_drewN ?_ _ | refine blk_drew ?_ | refine blk_alloc ?_ _)); exact BK109.out) hb); have n4_ := Aside0.mk (below_step (by repeat (first | (with_reducible first | exact HB.out | apply below_alloc | apply pw_below_drewN | apply below_drew1 | refine below_set ?_ GE109.out) | exact HB.out)) hb); clear HO_8; clear HO_9; clear BK109; clear HB; have HO_8 := n0_; have HO_9 := n1_; have HO112 := n2_; have BK109 := n3_; have HB := n4_; clear n0_ n1_ n2_ n3_ n4_; (try clear hb); (try clear hb2); (try clear hk); (try clear hi); (try clear ho0); obtain ⟨Ao28, co28, eo28⟩ := Kd.R_slice HO112.out; subst eo28) | ((with_reducible refine gate_builtin (b := .append) (xs := #[.tmp 39, .tmp 42]) rfl ?_); at_builtin; refine Kd.R_append_rows (Kd.int .i32) (w0 := w) w.heap.size rfl (.tmp 39) (.tmp 42) 67 21 (.int .i32 0) 4 rfl Tryd.underlying67 info21 rfl (by decide) (by omega) u9 x9_1 t110 _ _ _ (fun k_ => some k_ ≠ (u8 : Value).ownBlock ∧ some k_ ≠ (.slice Ao28 t110.length co28 : Value).ownBlock) (fun _ => False) rfl rfl ?aO ?aR (fun _ _ h => h) (fun _ h => h.elim) ?aF ?aB ?aS ?aL ?_; (case aR => repeat (first | exact (Kd.R_reads' HO112.out).2.2 | (with_reducible refine Kd.C_alloc ?_ _) | (with_reducible refine Kd.C_drewN ?_ _) | (with_reducible refine Kd.C_drew ?_))); (case aB => exact (by repeat (first | (with_reducible first | exact HB.out | apply below_alloc | apply pw_below_drewN | apply below_drew1 | refine below_set ?_ GE109.out) | exact HB.out))); (case aF => exact (fun k_ hk => ⟨Kd.fresh' (Kd.Q_lt (by (with_reducible repeat (first | apply Kd.Q_alloc | apply Kd.Q_drewN | apply Kd.Q_drew)); exact HO_8.out)) k_ hk, Kd.fresh' (Kd.R_lt (by (with_reducible repeat (first | apply Kd.R_alloc | apply Kd.R_drewN | apply Kd.R_drew)); exact HO112.out)) k_ hk⟩)); (case aO => exact (by (with_reducible repeat (first | apply Kd.R_alloc | apply Kd.R_drewN | apply Kd.R_drew)); exact HO_9.out)); (case aS => exact (below_size (by repeat (first | (with_reducible first | exact HB.out | apply below_alloc | apply pw_below_drewN | apply below_drew1 | refine below_set ?_ GE109.out) | exact HB.out)))); (case aL => have := LMc21.out; omega); intro v114 w27 ho hb hg hat; rw [← Ny113.out] at ho; have n0_ := Aside0.mk (Kd.Q_after (ok := (fun k_ => some k_ ≠ (.slice Ao28 t110.length co28 : Value).ownBlock)) (by (with_reducible repeat (first | apply Kd.Q_alloc | apply Kd.Q_drewN | apply Kd.Q_drew)); exact Kd.Q_mono HO_8.out (fun _ hk => ⟨hk.2, hk.1⟩)) hg hat); have n1_ := Aside0.mk (blk_grown (g := gb109) (o := .cells #[.int .i64 ((rd_T33 l0 x31_1).f0), .int .i64 ((rd_T33 l0 x31_1).f1), .string ((rd_T33 l0 x31_1).f2)] 33 (0, 0)) (by (with_reducible repeat (first | refine blk_drewN ?_ _ | refine blk_drew ?_ | refine blk_alloc ?_ _)); exact BK109.out) hg (Kd.R_ne HO_9.out BK109.out (by decide))); have n2_ := Aside0.mk (Kd.R_after (ok := (fun k_ => some k_ ≠ (u8 : Value).ownBlock)) (by (with_reducible repeat (first | apply Kd.R_alloc | apply Kd.R_drewN | apply Kd.R_drew)); exact Kd.R_mono HO112.out (fun _ hk => ⟨hk.1.2, hk.2⟩)) hg hat); have n3_ := Aside0.mk (hb); have n4_ := Aside0.mk (ho); clear HO_8; clear BK109; clear HO112; clear HB; clear HO_9; have HO_8 := n0_; have BK109 := n1_; have HO112 := n2_; have HB := n3_; have HO115 := n4_; clear n0_ n1_ n2_ n3_ n4_; clear ho hb hg hat; have hcz29_0 : w27.cell? ⟨gb109, 0, none⟩ = some (.int .i64 ((rd_T33 l0 x31_1).f0)) := (blk_cell BK109.out 0).trans rfl; have hcz29_1 : w27.cell? ⟨gb109, 1, none⟩ = some (.int .i64 ((rd_T33 l0 x31_1).f1)) := (blk_cell BK109.out 1).trans rfl; have hcz29_2 : w27.cell? ⟨gb109, 2, none⟩ = some (.string ((rd_T33 l0 x31_1).f2)) := (blk_cell BK109.out 2).trans rfl; have hfz29_0 := blk_frozen BK109.out 0; have hfz29_1 := blk_frozen BK109.out 1; have hfz29_2 := blk_frozen BK109.out 2; obtain ⟨Ao30, co30, eo30, _⟩ := Kd.Q_slice HO_8.out; subst eo30; have q31 : (((rd_T33 l0 x31_1).f1) : Int) ≤ ((x8_1.length : Int) : Int) := of_decide_eq_true (by first | (with_reducible assumption) | assumption); obtain ⟨i031, hi031, _, hsz31, _⟩ := info_parts info21; have hcut31 := cut_from (P := Tryd.prog) 67 21 .i64 Tryd.underlying67 hi031 1 hsz31 Ao30 x8_1.length co30 ((rd_T33 l0 x31_1).f1) (of_decide_eq_true (by first | (with_reducible assumption) | assumption)) q31; have hr31 := Kd.Q_drop (k := (((rd_T33 l0 x31_1).f1) : Int).toNat) HO_8.out (by omega); obtain ⟨A31, hA31⟩ : ∃ A1, A1 = (if co30 = (((rd_T33 l0 x31_1).f1) : Int).toNat then Ao30 else (Ao30 : Option Addr).map (·.add ((((rd_T33 l0 x31_1).f1) : Int).toNat * 1))) := ⟨_, rfl⟩; obtain ⟨c31, hc31⟩ : ∃ c1, c1 = co30 - (((rd_T33 l0 x31_1).f1) : Int).toNat := ⟨_, rfl⟩; have hy31 : y116.length = x8_1.length - (((rd_T33 l0 x31_1).f1) : Int).toNat := (by rw [Ny116.out, List.length_drop]); rw [← Ny116.out] at hr31; rw [← hy31, ← hA31, ← hc31] at hcut31; replace hr31 : Kd.Q (Kd.int .i32) 21 w27 w.heap.size (fun k_ => some k_ ≠ (.slice Ao28 t110.length co28 : Value).ownBlock ∧ some k_ ≠ (v114 : Value).ownBlock) (.slice A31 y116.length c31) y116 := (by rw [hA31, hc31, hy31]; exact hr31); have HE31 : Aside0 ((Value.slice A31 y116.length c31).ownBlock = (.slice Ao30 x8_1.length co30 : Value).ownBlock) := ⟨by rw [hA31]; split <;> (cases (Ao30 : Option Addr) <;> first | rfl | exact own_add _ _ _ _ _ _)⟩; clear hy31 hi031 hsz31 HO_8 hA31 hc31; have HO118 := Aside0.mk hr31; clear hr31; replace q31 := eq_true q31; have n_ := Aside0.mk (Kd.R_mono (ok' := fun k_ => (some k_ ≠ (.slice A31 y116.length c31 : Value).ownBlock ∧ some k_ ≠ (v114 : Value).ownBlock)) HO112.out (fun k_ hk => ⟨(by rw [HE31.out]; exact hk.1), hk.2⟩)); clear HO112; have HO112 := n_; clear n_; have n_ := Aside0.mk (Kd.R_mono (ok' := fun k_ => (some k_ ≠ (.slice A31 y116.length c31 : Value).ownBlock ∧ some k_ ≠ (.slice Ao28 t110.length co28 : Value).ownBlock)) HO115.out (fun k_ hk => ⟨(by rw [HE31.out]; exact hk.1), hk.2⟩)); clear HO115; have HO115 := n_; clear n_))
                          go_roundg k1
                          case measure => have := HK1.out; omega
                          case rel => exact ⟨(y116), (y113), (wrap64 (x31_1 + 1)), (by first | rfl | (simp; done) | (simp [*]; done)), H', ⟨by have := HK1.out; omega⟩, ⟨by (with_reducible repeat (first | apply Kd.Q_alloc | apply Kd.Q_drewN | apply Kd.Q_drew)); exact Kd.Q_mono HO118.out (fun _ hk => hk.2)⟩, ⟨by (with_reducible repeat (first | apply Kd.R_alloc | apply Kd.R_drewN | apply Kd.R_drew)); exact Kd.R_mono HO115.out (fun _ hk => hk.1)⟩, ⟨by repeat (first | (with_reducible first | exact HB.out | apply below_alloc | apply pw_below_drewN | apply below_drew1 | refine below_set ?_ GE109.out) | exact HB.out)⟩⟩
                        · rw [if_neg c23] at H
                          exact absurd H (by simp)
                      · rw [if_neg c22] at H
                        exact absurd H (by simp)
                    · rw [if_neg c21] at H
                      exact absurd H (by simp)
                  · rw [if_neg c19] at H
                    have c19b0 : (((rd_T33 l0 x31_1).f0) == 2) = false := beq_eq_false_iff_ne.mpr c19
                    have c19b1 : (((rd_T33 l0 x31_1).f0) != 2) = true := bne_iff_ne.mpr c19
                    by_cases c32 : ((rd_T33 l0 x31_1).f0) = 1
                    · rw [if_pos c32] at H
                      have c32b0 : (((rd_T33 l0 x31_1).f0) == 1) = true := beq_iff_eq.mpr c32
                      have c32b1 : (((rd_T33 l0 x31_1).f0) != 1) = false := bne_eq_false_iff_eq.mpr c32
                      clear c32
                      by_cases c33 : 0 ≤ ((rd_T33 l0 x31_1).f1)
                      · rw [if_pos c33] at H
                        have c33b0 := eq_true c33
                        have c33b1 : decide (0 ≤ ((rd_T33 l0 x31_1).f1)) = true := decide_eq_true c33
                        clear c33
                        by_cases c34 : ((rd_T33 l0 x31_1).f1) ≤ (x8_1.length : Int)
                        · rw [if_pos c34] at H
                          have c34b0 := eq_true c34
                          have c34b1 : decide (((rd_T33 l0 x31_1).f1) ≤ (x8_1.length : Int)) = true := decide_eq_true c34
                          clear c34
                          obtain ⟨y119, hy119⟩ : ∃ y_ : List Int, y_ = (x8_1.take (((rd_T33 l0 x31_1).f1) : Int).toNat) := ⟨_, rfl⟩
                          replace H : (if x9_1.length + y119.length < 35184372088832 then (apply_To.l0 k1 (x8_1.drop (((rd_T33 l0 x31_1).f1) : Int).toNat) (x9_1 ++ y119) l0 (l0.length : Int) (wrap64 (x31_1 + 1))) else (none)) = some (r1, r2) := by first | (rw [hy119]; with_reducible exact H) | (have H2_ := (Option.bind_some _ _).symm.trans H; rw [hy119]; with_reducible exact H2_) | (have H2_ := (Option.bind_some _ _).symm.trans H; with_reducible exact H2_) | with_reducible exact H | (rw [hy119]; exact H) | exact H
                          have Ny119 := Aside0.mk hy119
                          clear hy119
                          by_cases c35 : x9_1.length + y119.length < 35184372088832
                          · rw [if_pos c35] at H
                            have LMc35 := Aside0.mk c35
                            clear c35
                            obtain ⟨y123, hy123⟩ : ∃ y_ : List Int, y_ = (x9_1 ++ y119) := ⟨_, rfl⟩
                            replace H : (apply_To.l0 k1 (x8_1.drop (((rd_T33 l0 x31_1).f1) : Int).toNat) y123 l0 (l0.length : Int) (wrap64 (x31_1 + 1))) = some (r1, r2) := by first | (rw [hy123]; with_reducible exact H) | (have H2_ := (Option.bind_some _ _).symm.trans H; rw [hy123]; with_reducible exact H2_) | (have H2_ := (Option.bind_some _ _).symm.trans H; with_reducible exact H2_) | with_reducible exact H | (rw [hy123]; exact H) | exact H
                            have Ny123 := Aside0.mk hy123
                            clear hy123
                            have c36b0 := eq_true (of_decide_eq_true (by first | (with_reducible assumption) | assumption) : ((rd_T33 l0 x31_1).f1) ≤ (x8_1.length : Int))
                            obtain ⟨y126, hy126⟩ : ∃ y_ : List Int, y_ = (x8_1.drop (((rd_T33 l0 x31_1).f1) : Int).toNat) := ⟨_, rfl⟩
                            replace H : (apply_To.l0 k1 y126 y123 l0 (l0.length : Int) (wrap64 (x31_1 + 1))) = some (r1, r2) := by first | (rw [hy126]; with_reducible exact H) | (have H2_ := (Option.bind_some _ _).symm.trans H; rw [hy126]; with_reducible exact H2_) | (have H2_ := (Option.bind_some _ _).symm.trans H; with_reducible exact H2_) | with_reducible exact H | (rw [hy126]; exact H) | exact H
                            have Ny126 := Aside0.mk hy126
                            clear hy126
                            have H' := Aside0.mk H
                            clear H
                            have p108 : 0 ≤ (x31_1 : Int) := of_decide_eq_true (by first | (with_reducible assumption) | assumption)
                            have q108 : x31_1 < (l0.length : Int) := of_decide_eq_true (by first | (with_reducible assumption) | assumption)
                            obtain ⟨ad108, e108, hx108_0, hx108_1, hx108_2⟩ := at_T33 HR0.out x31_1 p108 q108
                            cases e108
                            replace hx108_0 := (HB.out.cell (World.block_lt_of_cell? w _ hx108_0)).trans hx108_0
                            replace hx108_1 := (HB.out.cell (World.block_lt_of_cell? w _ hx108_1)).trans hx108_1
                            replace hx108_2 := (HB.out.cell (World.block_lt_of_cell? w _ hx108_2)).trans hx108_2
                            replace p108 := eq_true p108
                            replace q108 := eq_true q108
                            go_wp2_with (first | ((with_reducible refine gate_dst (N := 11) rfl ?_); refine box_event ?hg (N := 11) ?hd (cs := #[.int .i64 0, .int .i64 0, .string (⟨#[]⟩ : ByteArray)]) (t := 33) ?hr ?_; (case hd => rfl); (case hg => rfl); (case hr => first | (go_simp; done) | (go_simp; rfl)); intro gb109 hg w37 hbox hb; have n0_ := Aside0.mk (Kd.Q_below (by (with_reducible repeat (first | apply Kd.Q_alloc | apply Kd.Q_drewN | apply Kd.Q_drew)); exact HO_8.out) hb); have n1_ := Aside0.mk (Kd.R_below (by (with_reducible repeat (first | apply Kd.R_alloc | apply Kd.R_drewN | apply Kd.R_drew)); exact HO_9.out) hb); have n2_ := Aside0.mk (below_step (by repeat (first | (with_reducible first | exact HB.out | apply below_alloc | apply pw_below_drewN | apply below_drew1) | exact HB.out)) hb); have n3_ := Aside0.mk (hbox); have n4_ := Aside0.mk ((by rw [hg]; exact (below_size (by repeat (first | (with_reducible first | exact HB.out | apply below_alloc | apply pw_below_drewN | apply below_drew1) | exact HB.out))) : w.heap.size ≤ gb109)); have n5_ := Aside0.mk ((by rw [hg]; exact (below_size (by repeat (first | (with_reducible first | exact HB.out | apply below_alloc | apply pw_below_drewN | apply below_drew1) | exact HB.out))) : w.heap.size ≤ gb109)); clear HO_8; clear HO_9; clear HB; have HO_8 := n0_; have HO_9 := n1_; have HB := n2_; have BK109 := n3_; have GW109 := n4_; have GE109 := n5_; clear n0_ n1_ n2_ n3_ n4_ n5_; clear hb hbox hg; have hcz38_0 : w37.cell? ⟨gb109, 0, none⟩ = some (.int .i64 0) := (blk_cell BK109.out 0).trans rfl; have hcz38_1 : w37.cell? ⟨gb109, 1, none⟩ = some (.int .i64 0) := (blk_cell BK109.out 1).trans rfl; have hcz38_2 : w37.cell? ⟨gb109, 2, none⟩ = some (.string (⟨#[]⟩ : ByteArray)) := (blk_cell BK109.out 2).trans rfl; have hfz38_0 := blk_frozen BK109.out 0; have hfz38_1 := blk_frozen BK109.out 1; have hfz38_2 := blk_frozen BK109.out 2) | ((with_reducible refine gate_store (t := 33) (p := 11) rfl ?_); refine store_event (t := 33) (p := 11) (v := ?vo_w39) (w1 := (((w37.setCell ⟨gb109, 0, none⟩ (.int .i64 ((rd_T33 l0 x31_1).f0))).setCell ⟨gb109, 1, none⟩ (.int .i64 ((rd_T33 l0 x31_1).f1))).setCell ⟨gb109, 2, none⟩ (.string ((rd_T33 l0 x31_1).f2)))) ?hg ?ho ?hn ?hr ?_; (case ho => rfl); (case hg => rfl); (case hn => rfl); (case hr => first | (go_simp; done) | (go_simp; rfl)); intro w39 hw; have n0_ : Aside0 (Kd.Q (Kd.int .i32) 21 w39 w.heap.size (fun k_ => some k_ ≠ (u9 : Value).ownBlock) u8 x8_1) := ⟨(by rw [hw]; exact (by (with_reducible repeat (first | apply Kd.Q_alloc | apply Kd.Q_drewN | apply Kd.Q_drew)); exact Kd.Q_mono (Kd.Q_far (p := ⟨gb109, 2, none⟩) (Kd.Q_far (p := ⟨gb109, 1, none⟩) (Kd.Q_far (p := ⟨gb109, 0, none⟩) (Kd.Q_types HO_8.out BK109.out (by decide)) (fun _ hk => hk.2) (.int .i64 ((rd_T33 l0 x31_1).f0))) (fun _ hk => hk.2) (.int .i64 ((rd_T33 l0 x31_1).f1))) (fun _ hk => hk.2) (.string ((rd_T33 l0 x31_1).f2))) (fun _ hk => hk.1)))⟩; have n1_ : Aside0 (Kd.R (Kd.int .i32) 21 w39 w.heap.size (fun k_ => some k_ ≠ (u8 : Value).ownBlock) u9 x9_1) := ⟨(by rw [hw]; exact (by (with_reducible repeat (first | apply Kd.R_alloc | apply Kd.R_drewN | apply Kd.R_drew)); exact Kd.R_mono (Kd.R_far (p := ⟨gb109, 2, none⟩) (Kd.R_far (p := ⟨gb109, 1, none⟩) (Kd.R_far (p := ⟨gb109, 0, none⟩) (Kd.R_types HO_9.out BK109.out (by decide)) (fun _ hk => hk.2) (.int .i64 ((rd_T33 l0 x31_1).f0))) (fun _ hk => hk.2) (.int .i64 ((rd_T33 l0 x31_1).f1))) (fun _ hk => hk.2) (.string ((rd_T33 l0 x31_1).f2))) (fun _ hk => hk.1)))⟩; have n2_ : Aside0 (w39.heap[gb109]? = some (.cells #[.int .i64 ((rd_T33 l0 x31_1).f0), .int .i64 ((rd_T33 l0 x31_1).f1), .string ((rd_T33 l0 x31_1).f2)] 33 (0, 0))) := ⟨(by rw [hw]; exact (by (with_reducible repeat (first | refine blk_drewN ?_ _ | refine blk_drew ?_ | refine blk_alloc ?_ _)); refine blk_put (cs := #[.int .i64 ((rd_T33 l0 x31_1).f0), .int .i64 ((rd_T33 l0 x31_1).f1), .string (⟨#[]⟩ : ByteArray)]) ?_ 2 _ rfl; (with_reducible repeat (first | refine blk_drewN ?_ _ | refine blk_drew ?_ | refine blk_alloc ?_ _)); refine blk_put (cs := #[.int .i64 ((rd_T33 l0 x31_1).f0), .int .i64 0, .string (⟨#[]⟩ : ByteArray)]) ?_ 1 _ rfl; (with_reducible repeat (first | refine blk_drewN ?_ _ | refine blk_drew ?_ | refine blk_alloc ?_ _)); refine blk_put (cs := #[.int .i64 0, .int .i64 0, .string (⟨#[]⟩ : ByteArray)]) ?_ 0 _ rfl; (with_reducible repeat (first | refine blk_drewN ?_ _ | refine blk_drew ?_ | refine blk_alloc ?_ _)); exact BK109.out))⟩; have n3_ : Aside0 (Below w.heap.size w w39) := ⟨(by rw [hw]; exact (by repeat (first | (with_reducible first | exact HB.out | apply below_alloc | apply pw_below_drewN | apply below_drew1 | refine below_set ?_ GE109.out) | exact HB.out)))⟩; clear hw; clear HO_8; clear HO_9; clear BK109; clear HB; have HO_8 := n0_; have HO_9 := n1_; have BK109 := n2_; have HB := n3_; clear n0_ n1_ n2_ n3_; have hcz40_0 : w39.cell? ⟨gb109, 0, none⟩ = some (.int .i64 ((rd_T33 l0 x31_1).f0)) := (blk_cell BK109.out 0).trans rfl; have hcz40_1 : w39.cell? ⟨gb109, 1, none⟩ = some (.int .i64 ((rd_T33 l0 x31_1).f1)) := (blk_cell BK109.out 1).trans rfl; have hcz40_2 : w39.cell? ⟨gb109, 2, none⟩ = some (.string ((rd_T33 l0 x31_1).f2)) := (blk_cell BK109.out 2).trans rfl; have hfz40_0 := blk_frozen BK109.out 0; have hfz40_1 := blk_frozen BK109.out 1; have hfz40_2 := blk_frozen BK109.out 2; obtain ⟨Ao42, co42, eo42, _⟩ := Kd.Q_slice HO_8.out; subst eo42; have q41 : (((rd_T33 l0 x31_1).f1) : Int) ≤ ((x8_1.length : Int) : Int) := of_decide_eq_true (by first | (with_reducible assumption) | assumption); obtain ⟨i041, hi041, _, hsz41, _⟩ := info_parts info21; have hroom41 : x8_1.length ≤ co42 := (Kd.Q_reads' HO_8.out).2.1; have hC41 : Kd.C (Kd.int .i32) _ Ao42 x8_1.length x8_1 := (Kd.Q_reads' HO_8.out).2.2; have hcut41 := cut_to (P := Tryd.prog) 67 21 .i64 Tryd.underlying67 hi041 Ao42 x8_1.length co42 ((rd_T33 l0 x31_1).f1) (of_decide_eq_true (by first | (with_reducible assumption) | assumption)) q41 hroom41; have hr41 := Kd.C_take (m := (((rd_T33 l0 x31_1).f1) : Int).toNat) hC41 (by omega); have hy41 : y119.length = (((rd_T33 l0 x31_1).f1) : Int).toNat := (by rw [Ny119.out, List.length_take]; omega); rw [← Ny119.out] at hr41; rw [← hy41] at hcut41; have HR122 := Aside0.mk hr41; have HC122 := Aside0.mk (show y119.length ≤ co42 from by omega); clear hr41 hC41 hroom41 hi041 hsz41; have KY41 := Aside0.mk hy41; clear hy41; have KL41 := Aside0.mk (show (((rd_T33 l0 x31_1).f1) : Int).toNat ≤ x8_1.length from by omega); replace q41 := eq_true q41) | ((with_reducible refine gate_builtin (b := .append) (xs := #[.tmp 46, .tmp 50]) rfl ?_); at_builtin; refine Kd.R_append_rows (Kd.int .i32) (w0 := w) w.heap.size rfl (.tmp 46) (.tmp 50) 67 21 (.int .i32 0) 4 rfl Tryd.underlying67 info21 rfl (by decide) (by omega) u9 x9_1 y119 _ _ _ (fun k_ => some k_ ≠ (.slice Ao42 x8_1.length co42 : Value).ownBlock) (fun _ => False) rfl rfl ?aO ?aR (fun _ _ h => h) (fun _ h => h.elim) ?aF ?aB ?aS ?aL ?_; (case aR => repeat (first | exact (by repeat (first | (with_reducible exact HR122.out) | (with_reducible refine Kd.C_alloc ?_ _) | (with_reducible refine Kd.C_drewN ?_ _) | (with_reducible refine Kd.C_drew ?_) | exact HR122.out)) | (with_reducible refine Kd.C_alloc ?_ _) | (with_reducible refine Kd.C_drewN ?_ _) | (with_reducible refine Kd.C_drew ?_))); (case aB => exact (by repeat (first | (with_reducible first | exact HB.out | apply below_alloc | apply pw_below_drewN | apply below_drew1 | refine below_set ?_ GE109.out) | exact HB.out))); (case aF => exact (fun k_ hk => Kd.fresh' (Kd.Q_lt (by (with_reducible repeat (first | apply Kd.Q_alloc | apply Kd.Q_drewN | apply Kd.Q_drew)); exact HO_8.out)) k_ hk)); (case aO => exact (by (with_reducible repeat (first | apply Kd.R_alloc | apply Kd.R_drewN | apply Kd.R_drew)); exact HO_9.out)); (case aS => exact (below_size (by repeat (first | (with_reducible first | exact HB.out | apply below_alloc | apply pw_below_drewN | apply below_drew1 | refine below_set ?_ GE109.out) | exact HB.out)))); (case aL => have := LMc35.out; omega); intro v124 w43 ho hb hg hat; rw [← Ny123.out] at ho; have n0_ := Aside0.mk (Kd.Q_after (ok := (fun _ => True)) (by (with_reducible repeat (first | apply Kd.Q_alloc | apply Kd.Q_drewN | apply Kd.Q_drew)); exact Kd.Q_mono HO_8.out (fun _ hk => ⟨trivial, hk⟩)) hg hat); have n1_ := Aside0.mk (blk_grown (g := gb109) (o := .cells #[.int .i64 ((rd_T33 l0 x31_1).f0), .int .i64 ((rd_T33 l0 x31_1).f1), .string ((rd_T33 l0 x31_1).f2)] 33 (0, 0)) (by (with_reducible repeat (first | refine blk_drewN ?_ _ | refine blk_drew ?_ | refine blk_alloc ?_ _)); exact BK109.out) hg (Kd.R_ne HO_9.out BK109.out (by decide))); have n2_ := Aside0.mk (hb); have n3_ := Aside0.mk ((show Kd.C (Kd.int .i32) w43 Ao42 y119.length y119 from by rw [Ny119.out]; exact Kd.C_take (m := (((rd_T33 l0 x31_1).f1) : Int).toNat) ((Kd.Q_reads' (Kd.Q_after (ok := (fun _ => True)) (by (with_reducible repeat (first | apply Kd.Q_alloc | apply Kd.Q_drewN | apply Kd.Q_drew)); exact Kd.Q_mono HO_8.out (fun _ hk => ⟨trivial, hk⟩)) hg hat)).2.2) KL41.out)); have n4_ := Aside0.mk (ho); clear HO_8; clear BK109; clear HB; clear HR122; clear HO_9; have HO_8 := n0_; have BK109 := n1_; have HB := n2_; have HR122 := n3_; have HO125 := n4_; clear n0_ n1_ n2_ n3_ n4_; clear ho hb hg hat; have hcz44_0 : w43.cell? ⟨gb109, 0, none⟩ = some (.int .i64 ((rd_T33 l0 x31_1).f0)) := (blk_cell BK109.out 0).trans rfl; have hcz44_1 : w43.cell? ⟨gb109, 1, none⟩ = some (.int .i64 ((rd_T33 l0 x31_1).f1)) := (blk_cell BK109.out 1).trans rfl; have hcz44_2 : w43.cell? ⟨gb109, 2, none⟩ = some (.string ((rd_T33 l0 x31_1).f2)) := (blk_cell BK109.out 2).trans rfl; have hfz44_0 := blk_frozen BK109.out 0; have hfz44_1 := blk_frozen BK109.out 1; have hfz44_2 := blk_frozen BK109.out 2; have n_ := Aside0.mk (Kd.Q_mono (ok' := (fun k_ => some k_ ≠ (v124 : Value).ownBlock)) HO_8.out (fun k_ hk => hk.2)); clear HO_8; have HO_8 := n_; clear n_; have q45 : (((rd_T33 l0 x31_1).f1) : Int) ≤ ((x8_1.length : Int) : Int) := of_decide_eq_true (by first | (with_reducible assumption) | assumption); obtain ⟨i045, hi045, _, hsz45, _⟩ := info_parts info21; have hcut45 := cut_from (P := Tryd.prog) 67 21 .i64 Tryd.underlying67 hi045 1 hsz45 Ao42 x8_1.length co42 ((rd_T33 l0 x31_1).f1) (of_decide_eq_true (by first | (with_reducible assumption) | assumption)) q45; have hr45 := Kd.Q_drop (k := (((rd_T33 l0 x31_1).f1) : Int).toNat) HO_8.out (by omega); obtain ⟨A45, hA45⟩ : ∃ A1, A1 = (if co42 = (((rd_T33 l0 x31_1).f1) : Int).toNat then Ao42 else (Ao42 : Option Addr).map (·.add ((((rd_T33 l0 x31_1).f1) : Int).toNat * 1))) := ⟨_, rfl⟩; obtain ⟨c45, hc45⟩ : ∃ c1, c1 = co42 - (((rd_T33 l0 x31_1).f1) : Int).toNat := ⟨_, rfl⟩; have hy45 : y126.length = x8_1.length - (((rd_T33 l0 x31_1).f1) : Int).toNat := (by rw [Ny126.out, List.length_drop]); rw [← Ny126.out] at hr45; rw [← hy45, ← hA45, ← hc45] at hcut45; replace hr45 : Kd.Q (Kd.int .i32) 21 w43 w.heap.size (fun k_ => some k_ ≠ (v124 : Value).ownBlock) (.slice A45 y126.length c45) y126 := (by rw [hA45, hc45, hy45]; exact hr45); have HE45 : Aside0 ((Value.slice A45 y126.length c45).ownBlock = (.slice Ao42 x8_1.length co42 : Value).ownBlock) := ⟨by rw [hA45]; split <;> (cases (Ao42 : Option Addr) <;> first | rfl | exact own_add _ _ _ _ _ _)⟩; clear hy45 hi045 hsz45 HO_8 hA45 hc45; have HO128 := Aside0.mk hr45; clear hr45; replace q45 := eq_true q45; have n_ := Aside0.mk (Kd.R_mono (ok' := fun k_ => some k_ ≠ (.slice A45 y126.length c45 : Value).ownBlock) HO125.out (fun k_ hk => (by rw [HE45.out]; exact hk))); clear HO125; have HO125 := n_; clear n_))
                            go_roundg k1
                            case measure => have := HK1.out; omega
                            case rel => exact ⟨(y126), (y123), (wrap64 (x31_1 + 1)), (by first | rfl | (simp; done) | (simp [*]; done)), H', ⟨by have := HK1.out; omega⟩, ⟨by (with_reducible repeat (first | apply Kd.Q_alloc | apply Kd.Q_drewN | apply Kd.Q_drew)); exact HO128.out⟩, ⟨by (with_reducible repeat (first | apply Kd.R_alloc | apply Kd.R_drewN | apply Kd.R_drew)); exact HO125.out⟩, ⟨by repeat (first | (with_reducible first | exact HB.out | apply below_alloc | apply pw_below_drewN | apply below_drew1 | refine below_set ?_ GE109.out) | exact HB.out)⟩⟩
                          · rw [if_neg c35] at H
                            exact absurd H (by simp)
                        · rw [if_neg c34] at H
                          exact absurd H (by simp)
                      · rw [if_neg c33] at H
                        exact absurd H (by simp)
                    · rw [if_neg c32] at H
                      have c32b0 : (((rd_T33 l0 x31_1).f0) == 1) = false := beq_eq_false_iff_ne.mpr c32
                      have c32b1 : (((rd_T33 l0 x31_1).f0) != 1) = true := bne_iff_ne.mpr c32
                      by_cases c46 : 0 ≤ ((rd_T33 l0 x31_1).f1)
                      · rw [if_pos c46] at H
                        have c46b0 := eq_true c46
                        have c46b1 : decide (0 ≤ ((rd_T33 l0 x31_1).f1)) = true := decide_eq_true c46
                        clear c46
                        by_cases c47 : ((rd_T33 l0 x31_1).f1) ≤ (x8_1.length : Int)
                        · rw [if_pos c47] at H
                          have c47b0 := eq_true c47
                          have c47b1 : decide (((rd_T33 l0 x31_1).f1) ≤ (x8_1.length : Int)) = true := decide_eq_true c47
                          clear c47
                          obtain ⟨y129, hy129⟩ : ∃ y_ : List Int, y_ = (x8_1.drop (((rd_T33 l0 x31_1).f1) : Int).toNat) := ⟨_, rfl⟩
                          replace H : (apply_To.l0 k1 y129 x9_1 l0 (l0.length : Int) (wrap64 (x31_1 + 1))) = some (r1, r2) := by first | (rw [hy129]; with_reducible exact H) | (have H2_ := (Option.bind_some _ _).symm.trans H; rw [hy129]; with_reducible exact H2_) | (have H2_ := (Option.bind_some _ _).symm.trans H; with_reducible exact H2_) | with_reducible exact H | (rw [hy129]; exact H) | exact H
                          have Ny129 := Aside0.mk hy129
                          clear hy129
                          have H' := Aside0.mk H
                          clear H
                          have p108 : 0 ≤ (x31_1 : Int) := of_decide_eq_true (by first | (with_reducible assumption) | assumption)
                          have q108 : x31_1 < (l0.length : Int) := of_decide_eq_true (by first | (with_reducible assumption) | assumption)
                          obtain ⟨ad108, e108, hx108_0, hx108_1, hx108_2⟩ := at_T33 HR0.out x31_1 p108 q108
                          cases e108
                          replace hx108_0 := (HB.out.cell (World.block_lt_of_cell? w _ hx108_0)).trans hx108_0
                          replace hx108_1 := (HB.out.cell (World.block_lt_of_cell? w _ hx108_1)).trans hx108_1
                          replace hx108_2 := (HB.out.cell (World.block_lt_of_cell? w _ hx108_2)).trans hx108_2
                          replace p108 := eq_true p108
                          replace q108 := eq_true q108
                          go_wp2_with (first | ((with_reducible refine gate_dst (N := 11) rfl ?_); refine box_event ?hg (N := 11) ?hd (cs := #[.int .i64 0, .int .i64 0, .string (⟨#[]⟩ : ByteArray)]) (t := 33) ?hr ?_; (case hd => rfl); (case hg => rfl); (case hr => first | (go_simp; done) | (go_simp; rfl)); intro gb109 hg w48 hbox hb; have n0_ := Aside0.mk (Kd.Q_below (by (with_reducible repeat (first | apply Kd.Q_alloc | apply Kd.Q_drewN | apply Kd.Q_drew)); exact HO_8.out) hb); have n1_ := Aside0.mk (Kd.R_below (by (with_reducible repeat (first | apply Kd.R_alloc | apply Kd.R_drewN | apply Kd.R_drew)); exact HO_9.out) hb); have n2_ := Aside0.mk (below_step (by repeat (first | (with_reducible first | exact HB.out | apply below_alloc | apply pw_below_drewN | apply below_drew1) | exact HB.out)) hb); have n3_ := Aside0.mk (hbox); have n4_ := Aside0.mk ((by rw [hg]; exact (below_size (by repeat (first | (with_reducible first | exact HB.out | apply below_alloc | apply pw_below_drewN | apply below_drew1) | exact HB.out))) : w.heap.size ≤ gb109)); have n5_ := Aside0.mk ((by rw [hg]; exact (below_size (by repeat (first | (with_reducible first | exact HB.out | apply below_alloc | apply pw_below_drewN | apply below_drew1) | exact HB.out))) : w.heap.size ≤ gb109)); clear HO_8; clear HO_9; clear HB; have HO_8 := n0_; have HO_9 := n1_; have HB := n2_; have BK109 := n3_; have GW109 := n4_; have GE109 := n5_; clear n0_ n1_ n2_ n3_ n4_ n5_; clear hb hbox hg; have hcz49_0 : w48.cell? ⟨gb109, 0, none⟩ = some (.int .i64 0) := (blk_cell BK109.out 0).trans rfl; have hcz49_1 : w48.cell? ⟨gb109, 1, none⟩ = some (.int .i64 0) := (blk_cell BK109.out 1).trans rfl; have hcz49_2 : w48.cell? ⟨gb109, 2, none⟩ = some (.string (⟨#[]⟩ : ByteArray)) := (blk_cell BK109.out 2).trans rfl; have hfz49_0 := blk_frozen BK109.out 0; have hfz49_1 := blk_frozen BK109.out 1; have hfz49_2 := blk_frozen BK109.out 2) | ((with_reducible refine gate_store (t := 33) (p := 11) rfl ?_); refine store_event (t := 33) (p := 11) (v := ?vo_w50) (w1 := (((w48.setCell ⟨gb109, 0, none⟩ (.int .i64 ((rd_T33 l0 x31_1).f0))).setCell ⟨gb109, 1, none⟩ (.int .i64 ((rd_T33 l0 x31_1).f1))).setCell ⟨gb109, 2, none⟩ (.string ((rd_T33 l0 x31_1).f2)))) ?hg ?ho ?hn ?hr ?_; (case ho => rfl); (case hg => rfl); (case hn => rfl); (case hr => first | (go_simp; done) | (go_simp; rfl)); intro w50 hw; have n0_ : Aside0 (Kd.Q (Kd.int .i32) 21 w50 w.heap.size (fun k_ => some k_ ≠ (u9 : Value).ownBlock) u8 x8_1) := ⟨(by rw [hw]; exact (by (with_reducible repeat (first | apply Kd.Q_alloc | apply Kd.Q_drewN | apply Kd.Q_drew)); exact Kd.Q_mono (Kd.Q_far (p := ⟨gb109, 2, none⟩) (Kd.Q_far (p := ⟨gb109, 1, none⟩) (Kd.Q_far (p := ⟨gb109, 0, none⟩) (Kd.Q_types HO_8.out BK109.out (by decide)) (fun _ hk => hk.2) (.int .i64 ((rd_T33 l0 x31_1).f0))) (fun _ hk => hk.2) (.int .i64 ((rd_T33 l0 x31_1).f1))) (fun _ hk => hk.2) (.string ((rd_T33 l0 x31_1).f2))) (fun _ hk => hk.1)))⟩; have n1_ : Aside0 (Kd.R (Kd.int .i32) 21 w50 w.heap.size (fun k_ => some k_ ≠ (u8 : Value).ownBlock) u9 x9_1) := ⟨(by rw [hw]; exact (by (with_reducible repeat (first | apply Kd.R_alloc | apply Kd.R_drewN | apply Kd.R_drew)); exact Kd.R_mono (Kd.R_far (p := ⟨gb109, 2, none⟩) (Kd.R_far (p := ⟨gb109, 1, none⟩) (Kd.R_far (p := ⟨gb109, 0, none⟩) (Kd.R_types HO_9.out BK109.out (by decide)) (fun _ hk => hk.2) (.int .i64 ((rd_T33 l0 x31_1).f0))) (fun _ hk => hk.2) (.int .i64 ((rd_T33 l0 x31_1).f1))) (fun _ hk => hk.2) (.string ((rd_T33 l0 x31_1).f2))) (fun _ hk => hk.1)))⟩; have n2_ : Aside0 (w50.heap[gb109]? = some (.cells #[.int .i64 ((rd_T33 l0 x31_1).f0), .int .i64 ((rd_T33 l0 x31_1).f1), .string ((rd_T33 l0 x31_1).f2)] 33 (0, 0))) := ⟨(by rw [hw]; exact (by (with_reducible repeat (first | refine blk_drewN ?_ _ | refine blk_drew ?_ | refine blk_alloc ?_ _)); refine blk_put (cs := #[.int .i64 ((rd_T33 l0 x31_1).f0), .int .i64 ((rd_T33 l0 x31_1).f1), .string (⟨#[]⟩ : ByteArray)]) ?_ 2 _ rfl; (with_reducible repeat (first | refine blk_drewN ?_ _ | refine blk_drew ?_ | refine blk_alloc ?_ _)); refine blk_put (cs := #[.int .i64 ((rd_T33 l0 x31_1).f0), .int .i64 0, .string (⟨#[]⟩ : ByteArray)]) ?_ 1 _ rfl; (with_reducible repeat (first | refine blk_drewN ?_ _ | refine blk_drew ?_ | refine blk_alloc ?_ _)); refine blk_put (cs := #[.int .i64 0, .int .i64 0, .string (⟨#[]⟩ : ByteArray)]) ?_ 0 _ rfl; (with_reducible repeat (first | refine blk_drewN ?_ _ | refine blk_drew ?_ | refine blk_alloc ?_ _)); exact BK109.out))⟩; have n3_ : Aside0 (Below w.heap.size w w50) := ⟨(by rw [hw]; exact (by repeat (first | (with_reducible first | exact HB.out | apply below_alloc | apply pw_below_drewN | apply below_drew1 | refine below_set ?_ GE109.out) | exact HB.out)))⟩; clear hw; clear HO_8; clear HO_9; clear BK109; clear HB; have HO_8 := n0_; have HO_9 := n1_; have BK109 := n2_; have HB := n3_; clear n0_ n1_ n2_ n3_; have hcz51_0 : w50.cell? ⟨gb109, 0, none⟩ = some (.int .i64 ((rd_T33 l0 x31_1).f0)) := (blk_cell BK109.out 0).trans rfl; have hcz51_1 : w50.cell? ⟨gb109, 1, none⟩ = some (.int .i64 ((rd_T33 l0 x31_1).f1)) := (blk_cell BK109.out 1).trans rfl; have hcz51_2 : w50.cell? ⟨gb109, 2, none⟩ = some (.string ((rd_T33 l0 x31_1).f2)) := (blk_cell BK109.out 2).trans rfl; have hfz51_0 := blk_frozen BK109.out 0; have hfz51_1 := blk_frozen BK109.out 1; have hfz51_2 := blk_frozen BK109.out 2; obtain ⟨Ao52, co52, eo52, _⟩ := Kd.Q_slice HO_8.out; subst eo52; have q53 : (((rd_T33 l0 x31_1).f1) : Int) ≤ ((x8_1.length : Int) : Int) := of_decide_eq_true (by first | (with_reducible assumption) | assumption); obtain ⟨i053, hi053, _, hsz53, _⟩ := info_parts info21; have hcut53 := cut_from (P := Tryd.prog) 67 21 .i64 Tryd.underlying67 hi053 1 hsz53 Ao52 x8_1.length co52 ((rd_T33 l0 x31_1).f1) (of_decide_eq_true (by first | (with_reducible assumption) | assumption)) q53; have hr53 := Kd.Q_drop (k := (((rd_T33 l0 x31_1).f1) : Int).toNat) HO_8.out (by omega); obtain ⟨A53, hA53⟩ : ∃ A1, A1 = (if co52 = (((rd_T33 l0 x31_1).f1) : Int).toNat then Ao52 else (Ao52 : Option Addr).map (·.add ((((rd_T33 l0 x31_1).f1) : Int).toNat * 1))) := ⟨_, rfl⟩; obtain ⟨c53, hc53⟩ : ∃ c1, c1 = co52 - (((rd_T33 l0 x31_1).f1) : Int).toNat := ⟨_, rfl⟩; have hy53 : y129.length = x8_1.length - (((rd_T33 l0 x31_1).f1) : Int).toNat := (by rw [Ny129.out, List.length_drop]); rw [← Ny129.out] at hr53; rw [← hy53, ← hA53, ← hc53] at hcut53; replace hr53 : Kd.Q (Kd.int .i32) 21 w50 w.heap.size (fun k_ => some k_ ≠ (u9 : Value).ownBlock) (.slice A53 y129.length c53) y129 := (by rw [hA53, hc53, hy53]; exact hr53); have HE53 : Aside0 ((Value.slice A53 y129.length c53).ownBlock = (.slice Ao52 x8_1.length co52 : Value).ownBlock) := ⟨by rw [hA53]; split <;> (cases (Ao52 : Option Addr) <;> first | rfl | exact own_add _ _ _ _ _ _)⟩; clear hy53 hi053 hsz53 HO_8 hA53 hc53; have HO131 := Aside0.mk hr53; clear hr53; replace q53 := eq_true q53; have n_ := Aside0.mk (Kd.R_mono (ok' := fun k_ => some k_ ≠ (.slice A53 y129.length c53 : Value).ownBlock) HO_9.out (fun k_ hk => (by rw [HE53.out]; exact hk))); clear HO_9; have HO_9 := n_; clear n_))
                          go_roundg k1
                          case measure => have := HK1.out; omega
                          case rel => exact ⟨(y129), (x9_1), (wrap64 (x31_1 + 1)), (by first | rfl | (simp; done) | (simp [*]; done)), H', ⟨by have := HK1.out; omega⟩, ⟨by (with_reducible repeat (first | apply Kd.Q_alloc | apply Kd.Q_drewN | apply Kd.Q_drew)); exact HO131.out⟩, ⟨by (with_reducible repeat (first | apply Kd.R_alloc | apply Kd.R_drewN | apply Kd.R_drew)); exact HO_9.out⟩, ⟨by repeat (first | (with_reducible first | exact HB.out | apply below_alloc | apply pw_below_drewN | apply below_drew1 | refine below_set ?_ GE109.out) | exact HB.out)⟩⟩
                        · rw [if_neg c47] at H
                          exact absurd H (by simp)
                      · rw [if_neg c46] at H
                        exact absurd H (by simp)
                · rw [if_neg c18] at H
                  exact absurd H (by simp)
              · rw [if_neg c17] at H
                exact absurd H (by simp)
            · rw [if_neg c16] at H
              have c16b0 : decide (x31_1 < (l0.length : Int)) = false := decide_eq_false c16
              clear c16
              replace H := Option.bind_eq_some_iff.mp H
              obtain ⟨t107, A540, H⟩ := H
              replace H : (some (t107, 0)) = some (r1, r2) := H
              have A54 := Aside0.mk A540
              clear A540
              simp only [Option.some.injEq, Prod.mk.injEq] at H
              obtain ⟨rfl, rfl⟩ := H
              obtain ⟨Ao55, co55, eo55⟩ := Kd.R_slice HO_9.out
              subst eo55
              go_wp2_with (first | ((with_reducible refine gate_convert (s := 67) (t := 9) rfl ?_); refine goesC_ (some 58) rfl rfl (.slice Ao55 x9_1.length co55) rfl (by first | rfl | assumption | (simp only [List.length_drop, List.length_take]; rfl)) ?_; (with_reducible refine (runes_str.calls _ _ x9_1 t107 _ ?side1 ?side2 A54.out).mono ?_); (case side1 => repeat (first | exact (Kd.R_reads' HO_9.out).2.2 | (with_reducible refine Kd.C_alloc ?_ _) | (with_reducible refine Kd.C_drewN ?_ _) | (with_reducible refine Kd.C_drew ?_))); (case side2 => exact (Kd.R_reads' HO_9.out).2.1); rintro e w' ⟨rfl, ⟨nd, rfl⟩⟩; refine ⟨_, rfl, ?_⟩))
              go_ret2
              exact ⟨by first | rfl | (simp [errW_none, errW_some] <;> rfl) | (simp [*, errW_none, errW_some] <;> rfl), by repeat (first | (with_reducible first | exact HB.out | apply below_alloc | apply pw_below_drewN | apply below_drew1) | exact HB.out)⟩
      · rw [if_neg c10] at H
        have c10b0 : (t102 == t103) = false := beq_eq_false_iff_ne.mpr c10
        have c10b1 : (t102 != t103) = true := bne_iff_ne.mpr c10
        simp only [Option.some.injEq, Prod.mk.injEq] at H
        obtain ⟨rfl, rfl⟩ := H
        go_enter Tryd.func22, Tryd.ntmps22
        go_wp2_with (first | ((with_reducible refine gate_callee (f := 42) rfl ?_); refine goesL_ (some 13) rfl rfl Tryd.func42 (by kernel_rfl) rfl #[.slice A0 l0.length c0] rfl (by (try simp only [List.map_toArray, List.map_cons, List.map_nil]); first | done | rfl | (simp only [List.length_drop, List.length_take]; rfl)) ?_; (with_reducible refine (op_May.calls k _ _ l0 t101 _ ?side1 ?side2 ?side3 A3.out).mono ?_); (case side1 => first | (with_reducible exact HG.out) | exact Glob.below HG.out (by repeat (first | (with_reducible first | exact HB.out | apply below_alloc | apply pw_below_drewN | apply below_drew1) | exact HB.out)) | exact Glob.drawn HG.out (by repeat (first | exact Drawn0.refl _ | apply Drawn0.step))); (case side2 => repeat (first | exact HR0.out | (with_reducible refine Kd.C_alloc ?_ _) | (with_reducible refine Kd.C_drewN ?_ _) | (with_reducible refine Kd.C_drew ?_))); (case side3 => exact HC0.out); rintro e w56 ⟨rfl, hb⟩; refine ⟨_, rfl, ?_⟩; have n0_ := Aside0.mk (below_step (by repeat (first | (with_reducible first | exact HB.out | apply below_alloc | apply pw_below_drewN | apply below_drew1) | exact HB.out)) hb); clear HB; have HB := n0_; clear n0_; (try clear hb); (try clear hb2); (try clear hk); (try clear hi)) | ((with_reducible refine gate_callee (f := 25) rfl ?_); refine goesL_ (some 18) rfl rfl Tryd.func25 (by kernel_rfl) rfl #[.string a1] rfl (by (try simp only [List.map_toArray, List.map_cons, List.map_nil]); first | done | rfl | (simp only [List.length_drop, List.length_take]; rfl)) ?_; (with_reducible refine (points_Count.calls a1 t102 _ ?side1 A5.out).mono ?_); (case side1 => first | (with_reducible exact HG.out) | exact Glob.below HG.out (by repeat (first | (with_reducible first | exact HB.out | apply below_alloc | apply pw_below_drewN | apply below_drew1) | exact HB.out)) | exact Glob.drawn HG.out (by repeat (first | exact Drawn0.refl _ | apply Drawn0.step))); rintro e w57 ⟨rfl, hb⟩; refine ⟨_, rfl, ?_⟩; have n0_ := Aside0.mk (below_step (by repeat (first | (with_reducible first | exact HB.out | apply below_alloc | apply pw_below_drewN | apply below_drew1) | exact HB.out)) hb); clear HB; have HB := n0_; clear n0_; (try clear hb); (try clear hb2); (try clear hk); (try clear hi)) | ((with_reducible refine gate_callee (f := 20) rfl ?_); refine goesL_ (some 25) rfl rfl Tryd.func20 (by kernel_rfl) rfl #[.slice A0 l0.length c0] rfl (by (try simp only [List.map_toArray, List.map_cons, List.map_nil]); first | done | rfl | (simp only [List.length_drop, List.length_take]; rfl)) ?_; (with_reducible refine (op_In.calls k _ _ l0 t103 _ ?side1 ?side2 ?side3 A9.out).mono ?_); (case side1 => first | (with_reducible exact HG.out) | exact Glob.below HG.out (by repeat (first | (with_reducible first | exact HB.out | apply below_alloc | apply pw_below_drewN | apply below_drew1) | exact HB.out)) | exact Glob.drawn HG.out (by repeat (first | exact Drawn0.refl _ | apply Drawn0.step))); (case side2 => repeat (first | exact (Kd.C_below HR0.out HB.out) | (with_reducible refine Kd.C_alloc ?_ _) | (with_reducible refine Kd.C_drewN ?_ _) | (with_reducible refine Kd.C_drew ?_))); (case side3 => exact HC0.out); rintro e w58 ⟨rfl, hb⟩; refine ⟨_, rfl, ?_⟩; have n0_ := Aside0.mk (below_step (by repeat (first | (with_reducible first | exact HB.out | apply below_alloc | apply pw_below_drewN | apply below_drew1) | exact HB.out)) hb); clear HB; have HB := n0_; clear n0_; (try clear hb); (try clear hb2); (try clear hk); (try clear hi)))
        go_ret2
        exact ⟨by first | rfl | (simp [errW_none, errW_some] <;> rfl) | (simp [*, errW_none, errW_some] <;> rfl), by repeat (first | (with_reducible first | exact HB.out | apply below_alloc | apply pw_below_drewN | apply below_drew1) | exact HB.out)⟩
  · rw [if_neg c4] at H
    have c4b0 : (t101 == 0) = false := beq_eq_false_iff_ne.mpr c4
    have c4b1 : (t101 != 0) = true := bne_iff_ne.mpr c4
    simp only [Option.some.injEq, Prod.mk.injEq] at H
    obtain ⟨rfl, rfl⟩ := H
    go_enter Tryd.func22, Tryd.ntmps22
    go_wp2_with (first | ((with_reducible refine gate_callee (f := 42) rfl ?_); refine goesL_ (some 13) rfl rfl Tryd.func42 (by kernel_rfl) rfl #[.slice A0 l0.length c0] rfl (by (try simp only [List.map_toArray, List.map_cons, List.map_nil]); first | done | rfl | (simp only [List.length_drop, List.length_take]; rfl)) ?_; (with_reducible refine (op_May.calls k _ _ l0 t101 _ ?side1 ?side2 ?side3 A3.out).mono ?_); (case side1 => first | (with_reducible exact HG.out) | exact Glob.below HG.out (by repeat (first | (with_reducible first | exact HB.out | apply below_alloc | apply pw_below_drewN | apply below_drew1) | exact HB.out)) | exact Glob.drawn HG.out (by repeat (first | exact Drawn0.refl _ | apply Drawn0.step))); (case side2 => repeat (first | exact HR0.out | (with_reducible refine Kd.C_alloc ?_ _) | (with_reducible refine Kd.C_drewN ?_ _) | (with_reducible refine Kd.C_drew ?_))); (case side3 => exact HC0.out); rintro e w59 ⟨rfl, hb⟩; refine ⟨_, rfl, ?_⟩; have n0_ := Aside0.mk (below_step (by repeat (first | (with_reducible first | exact HB.out | apply below_alloc | apply pw_below_drewN | apply below_drew1) | exact HB.out)) hb); clear HB; have HB := n0_; clear n0_; (try clear hb); (try clear hb2); (try clear hk); (try clear hi)))
    go_ret2
    exact ⟨by first | rfl | (simp [errW_none, errW_some] <;> rfl) | (simp [*, errW_none, errW_some] <;> rfl), by repeat (first | (with_reducible first | exact HB.out | apply below_alloc | apply pw_below_drewN | apply below_drew1) | exact HB.out)⟩
end Go.Proofs.YtkgicpnnlkcaeaaDoor.F
end
section
namespace Go.Proofs.YtkgicpnnlkcaeaaDoor.F
open Go.RowKit Go.Proofs.YtkgicpnnlkcaeaaDoorW.PrintWords Go.Proofs.YtkgicpnnlkcaeaaDoorW.PrintLast Go.Proofs.YtkgicpnnlkcaeaaDoorW.PrintMore
attribute [local go_sem] max2_int min2_int max_two min_two max_three min_three max_four min_four cell_setCell_isSome
set_option linter.unusedVariables false
set_option linter.unusedSimpArgs false
mutual
def apply_All.j0 : Nat → ByteArray → List (List (S33)) → Bool → Option (ByteArray × Int)
  | 0, _, _, _ => none
  | k + 1, x0, x1, x17 => if x17 = true then (some ((⟨#[]⟩ : ByteArray), 3)) else (apply_All.l0 k x0 x1 (x1.length : Int) 0)
def apply_All.l0 : Nat → ByteArray → List (List (S33)) → Int → Int → Option (ByteArray × Int)
  | 0, _, _, _, _ => none
  | k + 1, x0, x18, x19, x20 => if x20 < x19 then (if 0 ≤ x20 then (if x20 < (x18.length : Int) then ((apply_To.f k (rd_L5 x18 x20) x0).bind fun bt103 => (if bt103.2 = 0 then (apply_All.l0 k bt103.1 x18 x19 (wrap64 (x20 + 1))) else (some ((⟨#[]⟩ : ByteArray), bt103.2)))) else (none)) else (none)) else (some (x0, 0))
end
def apply_All.f (k : Nat) (a0 : ByteArray) (l1 : List (List (S33))) : Option (ByteArray × Int) := if (l1.length : Int) = 0 then ((points_Valid.f a0).bind fun t101 => (apply_All.j0 k a0 l1 (!t101))) else (apply_All.j0 k a0 l1 false)
set_option maxHeartbeats 8000000 in
set_option maxRecDepth 100000 in
theorem apply_All.calls (k : Nat) (a0 : ByteArray) (A1 : Option Addr) (c1 : Nat) (l1 : List (List (S33))) (r1 : ByteArray) (r2 : Int) (w : World) (hG : Glob w) (hr1 : Kd.C (Kd.slice 33 k33) w A1 l1.length l1) (hc1 : l1.length ≤ c1) (h : apply_All.f k a0 l1 = some (r1, r2)) :
    Calls Tryd.prog 27 #[.string a0, .slice A1 l1.length c1] w fun e w' => e = .returned (.tuple #[.string r1, .int .i64 r2]) ∧ Below w.heap.size w w' := by
  have HG := Aside0.mk hG
  clear hG
  have HR1 := Aside0.mk hr1
  have HC1 := Aside0.mk hc1
  clear hr1 hc1
  have HB := Aside0.mk (Below.refl w.heap.size w)
  have H : (if (l1.length : Int) = 0 then ((points_Valid.f a0).bind fun t101 => (apply_All.j0 k a0 l1 (!t101))) else (apply_All.j0 k a0 l1 false)) = some (r1, r2) := h
  clear h
  have HC3 := Aside0.mk H
  clear H
  go_enter Tryd.func27, Tryd.ntmps27
  go_upto_region 1 with (fail)
  go_cut [17] (fun v17 wc => ∃ (kq : Nat) (x17_2 : Bool), v17 = .bool x17_2 ∧ Aside0 (apply_All.j0 kq a0 l1 x17_2 = some (r1, r2)) ∧ Aside0 (kq ≤ k) ∧ Aside0 (Below w.heap.size w wc))
  case first =>
    have H := HC3.out
    clear HC3
    by_cases c4 : (l1.length : Int) = 0
    · rw [if_pos c4] at H
      have c4b0 : ((l1.length : Int) == 0) = true := beq_iff_eq.mpr c4
      have c4b1 : ((l1.length : Int) != 0) = false := bne_eq_false_iff_eq.mpr c4
      clear c4
      (first | rw [c4b0] | (simp only [i64_w, i32_w]; rw [c4b0]) | skip)
      replace H := Option.bind_eq_some_iff.mp H
      obtain ⟨t101, A50, H⟩ := H
      replace H : (apply_All.j0 k a0 l1 (!t101)) = some (r1, r2) := H
      have A5 := Aside0.mk A50
      clear A50
      have H' := Aside0.mk H
      clear H
      go_wp2_with (first | (go_at_call 48; (with_reducible refine (points_Valid.calls a0 t101 _ ?side1 A5.out).mono ?_); (case side1 => first | (with_reducible exact HG.out) | exact Glob.below HG.out (by repeat (first | (with_reducible first | exact HB.out | apply below_alloc | apply pw_below_drewN | apply below_drew1) | exact HB.out)) | exact Glob.drawn HG.out (by repeat (first | exact Drawn0.refl _ | apply Drawn0.step))); rintro e w6 ⟨rfl, hb⟩; have n0_ := Aside0.mk (below_step (by repeat (first | (with_reducible first | exact HB.out | apply below_alloc | apply pw_below_drewN | apply below_drew1) | exact HB.out)) hb); clear HB; have HB := n0_; clear n0_; (try clear hb); (try clear hb2); (try clear hk); (try clear hi)))
      go_meet
      case rel => exact ⟨_, (!t101), (by first | rfl | (simp; done) | (simp [*]; done)), H', ⟨by first | omega | exact Nat.le_refl _⟩, ⟨by repeat (first | (with_reducible first | exact HB.out | apply below_alloc | apply pw_below_drewN | apply below_drew1) | exact HB.out)⟩⟩
    · rw [if_neg c4] at H
      have c4b0 : ((l1.length : Int) == 0) = false := beq_eq_false_iff_ne.mpr c4
      have c4b1 : ((l1.length : Int) != 0) = true := bne_iff_ne.mpr c4
      have c4b2 : ¬ (l1 = []) := fun h_ => c4 (by rw [h_]; rfl)
      (first | rw [c4b0] | (simp only [i64_w, i32_w]; rw [c4b0]) | skip)
      have H' := Aside0.mk H
      clear H
      go_wp2
      go_meet
      case rel => exact ⟨_, (false), (by first | rfl | (simp; done) | (simp [*]; done)), H', ⟨by first | omega | exact Nat.le_refl _⟩, ⟨by repeat (first | (with_reducible first | exact HB.out | apply below_alloc | apply pw_below_drewN | apply below_drew1) | exact HB.out)⟩⟩
  case rest =>
    clear HC3
    try clear c1
    try clear c2
    try clear p2
    try clear c4
    try clear c4b0
    try clear c4b1
    try clear c4b2
    obtain ⟨kq, x17_2, rfl, HA, HJ2, HB⟩ := hcut
    cases kq with
    | zero => exact absurd HA.out (by simp [apply_All.j0])
    | succ kj2 =>
      have H := HA.out
      clear HA
      simp only [apply_All.j0] at H
      by_cases c7 : x17_2 = true
      · subst c7
        have H1 : (some ((⟨#[]⟩ : ByteArray), 3)) = some (r1, r2) := by rw [if_pos rfl] at H; exact H
        clear H
        have H := H1
        clear H1
        simp only [Option.some.injEq, Prod.mk.injEq] at H
        obtain ⟨rfl, rfl⟩ := H
        go_wp2
        go_ret2
        exact ⟨by first | rfl | (simp [errW_none, errW_some] <;> rfl) | (simp [*, errW_none, errW_some] <;> rfl), by repeat (first | (with_reducible first | exact HB.out | apply below_alloc | apply pw_below_drewN | apply below_drew1) | exact HB.out)⟩
      · replace c7 := Bool.eq_false_iff.mpr c7
        subst c7
        have H1 : (apply_All.l0 kj2 a0 l1 (l1.length : Int) 0) = some (r1, r2) := by rw [if_neg (show ¬ (false = true) by decide)] at H; exact H
        clear H
        have H := H1
        clear H1
        have H' := Aside0.mk H
        clear H
        go_wp2
        go_loopg [0, 20] kj2 (fun kq v0 v20 w' => ∃ (x0_2 : ByteArray) (x20_2 : Int), v0 = .string x0_2 ∧ v20 = .int .i64 x20_2 ∧ Aside0 (apply_All.l0 kq x0_2 l1 (l1.length : Int) x20_2 = some (r1, r2)) ∧ Aside0 (kq ≤ kj2) ∧ Aside0 (Below w.heap.size w w'))
        case atStart => exact ⟨(a0), (0), (by first | rfl | (simp; done) | (simp [*]; done)), (by first | rfl | (simp; done) | (simp [*]; done)), H', ⟨Nat.le_refl _⟩, ⟨by repeat (first | (with_reducible first | exact HB.out | apply below_alloc | apply pw_below_drewN | apply below_drew1) | exact HB.out)⟩⟩
        case round =>
          clear H'
          try clear c1
          try clear c2
          try clear p2
          try clear c4
          try clear c4b0
          try clear c4b1
          try clear c4b2
          try clear c7
          try clear p2
          obtain ⟨x0_2, x20_2, rfl, rfl, HA, HK2, HB⟩ := hrel
          cases gk with
          | zero => exact absurd HA.out (by simp [apply_All.l0])
          | succ k2 =>
            have H := HA.out
            clear HA
            simp only [apply_All.l0] at H
            by_cases c8 : x20_2 < (l1.length : Int)
            · rw [if_pos c8] at H
              have c8b0 : decide (x20_2 < (l1.length : Int)) = true := decide_eq_true c8
              clear c8
              by_cases c9 : 0 ≤ x20_2
              · rw [if_pos c9] at H
                have c9b0 : decide (0 ≤ x20_2) = true := decide_eq_true c9
                clear c9
                by_cases c10 : x20_2 < (l1.length : Int)
                · rw [if_pos c10] at H
                  have c10b0 : decide (x20_2 < (l1.length : Int)) = true := decide_eq_true c10
                  clear c10
                  replace H := Option.bind_eq_some_iff.mp H
                  obtain ⟨⟨t103, t104⟩, A110, H⟩ := H
                  replace H : (if t104 = 0 then (apply_All.l0 k2 t103 l1 (l1.length : Int) (wrap64 (x20_2 + 1))) else (some ((⟨#[]⟩ : ByteArray), t104))) = some (r1, r2) := H
                  have A11 := Aside0.mk A110
                  clear A110
                  by_cases c12 : t104 = 0
                  · rw [if_pos c12] at H
                    have c12b0 : (t104 == 0) = true := beq_iff_eq.mpr c12
                    have c12b1 : (t104 != 0) = false := bne_eq_false_iff_eq.mpr c12
                    clear c12
                    have H' := Aside0.mk H
                    clear H
                    have p102 : 0 ≤ (x20_2 : Int) := of_decide_eq_true (by first | (with_reducible assumption) | assumption)
                    have q102 : x20_2 < (l1.length : Int) := of_decide_eq_true (by first | (with_reducible assumption) | assumption)
                    obtain ⟨ad102, A102_0, c102_0, e102, hx102_0, hl102_0, hi102_0⟩ := at_L5 HR1.out x20_2 p102 q102
                    cases e102
                    replace hx102_0 := (HB.out.cell (World.block_lt_of_cell? w _ hx102_0)).trans hx102_0
                    have HR102_0 := Aside0.mk hi102_0
                    have HC102_0 := Aside0.mk hl102_0
                    clear hi102_0 hl102_0
                    replace p102 := eq_true p102
                    replace q102 := eq_true q102
                    go_wp2_with (first | ((with_reducible refine gate_callee (f := 22) rfl ?_); refine goesL_ (some 27) rfl rfl Tryd.func22 (by kernel_rfl) rfl #[.slice A102_0 (rd_L5 l1 x20_2).length c102_0, .string x0_2] rfl (by (try simp only [List.map_toArray, List.map_cons, List.map_nil]); first | done | rfl | (simp only [List.length_drop, List.length_take]; rfl)) ?_; (with_reducible refine (apply_To.calls k2 _ _ (rd_L5 l1 x20_2) x0_2 t103 t104 _ ?side1 ?side2 ?side3 A11.out).mono ?_); (case side1 => first | (with_reducible exact HG.out) | exact Glob.below HG.out (by repeat (first | (with_reducible first | exact HB.out | apply below_alloc | apply pw_below_drewN | apply below_drew1) | exact HB.out)) | exact Glob.drawn HG.out (by repeat (first | exact Drawn0.refl _ | apply Drawn0.step))); (case side2 => repeat (first | exact (Kd.C_below HR102_0.out HB.out) | (with_reducible refine Kd.C_alloc ?_ _) | (with_reducible refine Kd.C_drewN ?_ _) | (with_reducible refine Kd.C_drew ?_))); (case side3 => exact HC102_0.out); rintro e w13 ⟨rfl, hb⟩; refine ⟨_, rfl, ?_⟩; have n0_ := Aside0.mk (below_step (by repeat (first | (with_reducible first | exact HB.out | apply below_alloc | apply pw_below_drewN | apply below_drew1) | exact HB.out)) hb); clear HB; have HB := n0_; clear n0_; (try clear hb); (try clear hb2); (try clear hk); (try clear hi)))
                    go_roundg k2
                    case measure => have := HJ2.out; have := HK2.out; omega
                    case rel => exact ⟨(t103), (wrap64 (x20_2 + 1)), (by first | rfl | (simp; done) | (simp [*]; done)), (by first | rfl | (simp; done) | (simp [*]; done)), H', ⟨by have := HJ2.out; have := HK2.out; omega⟩, ⟨by repeat (first | (with_reducible first | exact HB.out | apply below_alloc | apply pw_below_drewN | apply below_drew1) | exact HB.out)⟩⟩
                  · rw [if_neg c12] at H
                    have c12b0 : (t104 == 0) = false := beq_eq_false_iff_ne.mpr c12
                    have c12b1 : (t104 != 0) = true := bne_iff_ne.mpr c12
                    simp only [Option.some.injEq, Prod.mk.injEq] at H
                    obtain ⟨rfl, rfl⟩ := H
                    have p102 : 0 ≤ (x20_2 : Int) := of_decide_eq_true (by first | (with_reducible assumption) | assumption)
                    have q102 : x20_2 < (l1.length : Int) := of_decide_eq_true (by first | (with_reducible assumption) | assumption)
                    obtain ⟨ad102, A102_0, c102_0, e102, hx102_0, hl102_0, hi102_0⟩ := at_L5 HR1.out x20_2 p102 q102
                    cases e102
                    replace hx102_0 := (HB.out.cell (World.block_lt_of_cell? w _ hx102_0)).trans hx102_0
                    have HR102_0 := Aside0.mk hi102_0
                    have HC102_0 := Aside0.mk hl102_0
                    clear hi102_0 hl102_0
                    replace p102 := eq_true p102
                    replace q102 := eq_true q102
                    go_wp2_with (first | ((with_reducible refine gate_callee (f := 22) rfl ?_); refine goesL_ (some 27) rfl rfl Tryd.func22 (by kernel_rfl) rfl #[.slice A102_0 (rd_L5 l1 x20_2).length c102_0, .string x0_2] rfl (by (try simp only [List.map_toArray, List.map_cons, List.map_nil]); first | done | rfl | (simp only [List.length_drop, List.length_take]; rfl)) ?_; (with_reducible refine (apply_To.calls k2 _ _ (rd_L5 l1 x20_2) x0_2 t103 t104 _ ?side1 ?side2 ?side3 A11.out).mono ?_); (case side1 => first | (with_reducible exact HG.out) | exact Glob.below HG.out (by repeat (first | (with_reducible first | exact HB.out | apply below_alloc | apply pw_below_drewN | apply below_drew1) | exact HB.out)) | exact Glob.drawn HG.out (by repeat (first | exact Drawn0.refl _ | apply Drawn0.step))); (case side2 => repeat (first | exact (Kd.C_below HR102_0.out HB.out) | (with_reducible refine Kd.C_alloc ?_ _) | (with_reducible refine Kd.C_drewN ?_ _) | (with_reducible refine Kd.C_drew ?_))); (case side3 => exact HC102_0.out); rintro e w14 ⟨rfl, hb⟩; refine ⟨_, rfl, ?_⟩; have n0_ := Aside0.mk (below_step (by repeat (first | (with_reducible first | exact HB.out | apply below_alloc | apply pw_below_drewN | apply below_drew1) | exact HB.out)) hb); clear HB; have HB := n0_; clear n0_; (try clear hb); (try clear hb2); (try clear hk); (try clear hi)))
                    go_ret2
                    exact ⟨by first | rfl | (simp [errW_none, errW_some] <;> rfl) | (simp [*, errW_none, errW_some] <;> rfl), by repeat (first | (with_reducible first | exact HB.out | apply below_alloc | apply pw_below_drewN | apply below_drew1) | exact HB.out)⟩
                · rw [if_neg c10] at H
                  exact absurd H (by simp)
              · rw [if_neg c9] at H
                exact absurd H (by simp)
            · rw [if_neg c8] at H
              have c8b0 : decide (x20_2 < (l1.length : Int)) = false := decide_eq_false c8
              clear c8
              simp only [Option.some.injEq, Prod.mk.injEq] at H
              obtain ⟨rfl, rfl⟩ := H
              go_wp2
              go_ret2
              exact ⟨by first | rfl | (simp [errW_none, errW_some] <;> rfl) | (simp [*, errW_none, errW_some] <;> rfl), by repeat (first | (with_reducible first | exact HB.out | apply below_alloc | apply pw_below_drewN | apply below_drew1) | exact HB.out)⟩
end Go.Proofs.YtkgicpnnlkcaeaaDoor.F
end
section
namespace Go.Proofs.YtkgicpnnlkcaeaaDoor.F
open Go.RowKit Go.Proofs.YtkgicpnnlkcaeaaDoorW.PrintWords Go.Proofs.YtkgicpnnlkcaeaaDoorW.PrintLast Go.Proofs.YtkgicpnnlkcaeaaDoorW.PrintMore
attribute [local go_sem] max2_int min2_int max_two min_two max_three min_three max_four min_four cell_setCell_isSome
set_option linter.unusedVariables false
set_option linter.unusedSimpArgs false
def epitomelaw07_shown.f (k : Nat)  : Option (Bool) := (apply_To.f k (([(⟨1, 1, (⟨#[]⟩ : ByteArray)⟩ : S33), (⟨3, 1, (⟨#[]⟩ : ByteArray)⟩ : S33), (⟨2, 0, (⟨#[120]⟩ : ByteArray)⟩ : S33), (⟨1, 1, (⟨#[]⟩ : ByteArray)⟩ : S33)] : List (S33))) (⟨#[97, 98, 99]⟩ : ByteArray)).bind fun bt104 => ((apply_All.f k (⟨#[97, 98, 99]⟩ : ByteArray) ([] : List (List (S33)))).bind fun bt106 => (if bt104.1.toList = ([97, 120, 99] : List UInt8) then (if bt104.2 = 0 then (if bt106.1.toList = ([97, 98, 99] : List UInt8) then (some (bt106.2 == 0)) else (some false)) else (some false)) else (some false)))
set_option maxHeartbeats 8000000 in
set_option maxRecDepth 100000 in
theorem epitomelaw07_shown.calls (k : Nat)  (r : Bool) (w : World) (hG : Glob w) (h : epitomelaw07_shown.f k  = some r) :
    Calls Tryd.prog 21 #[] w fun e w' => e = .returned (.bool r) ∧ Below w.heap.size w w' := by
  have hu33 := Tryd.underlying33
  have HG := Aside0.mk hG
  clear hG
  have HB := Aside0.mk (Below.refl w.heap.size w)
  have H : ((apply_To.f k (([(⟨1, 1, (⟨#[]⟩ : ByteArray)⟩ : S33), (⟨3, 1, (⟨#[]⟩ : ByteArray)⟩ : S33), (⟨2, 0, (⟨#[120]⟩ : ByteArray)⟩ : S33), (⟨1, 1, (⟨#[]⟩ : ByteArray)⟩ : S33)] : List (S33))) (⟨#[97, 98, 99]⟩ : ByteArray)).bind fun bt104 => ((apply_All.f k (⟨#[97, 98, 99]⟩ : ByteArray) ([] : List (List (S33)))).bind fun bt106 => (if bt104.1.toList = ([97, 120, 99] : List UInt8) then (if bt104.2 = 0 then (if bt106.1.toList = ([97, 98, 99] : List UInt8) then (some (bt106.2 == 0)) else (some false)) else (some false)) else (some false)))) = some r := h
  clear h
  obtain ⟨y101, hy101⟩ : ∃ y_ : List (S33), y_ = (([(⟨1, 1, (⟨#[]⟩ : ByteArray)⟩ : S33), (⟨3, 1, (⟨#[]⟩ : ByteArray)⟩ : S33), (⟨2, 0, (⟨#[120]⟩ : ByteArray)⟩ : S33), (⟨1, 1, (⟨#[]⟩ : ByteArray)⟩ : S33)] : List (S33))) := ⟨_, rfl⟩
  replace H : ((apply_To.f k y101 (⟨#[97, 98, 99]⟩ : ByteArray)).bind fun bt104 => ((apply_All.f k (⟨#[97, 98, 99]⟩ : ByteArray) ([] : List (List (S33)))).bind fun bt106 => (if bt104.1.toList = ([97, 120, 99] : List UInt8) then (if bt104.2 = 0 then (if bt106.1.toList = ([97, 98, 99] : List UInt8) then (some (bt106.2 == 0)) else (some false)) else (some false)) else (some false)))) = some r := by first | (rw [hy101]; with_reducible exact H) | (have H2_ := (Option.bind_some _ _).symm.trans H; rw [hy101]; with_reducible exact H2_) | (have H2_ := (Option.bind_some _ _).symm.trans H; with_reducible exact H2_) | with_reducible exact H | (rw [hy101]; exact H) | exact H
  have Ny101 := Aside0.mk hy101
  clear hy101
  replace H := Option.bind_eq_some_iff.mp H
  obtain ⟨⟨t104, t105⟩, A10, H⟩ := H
  replace H : ((apply_All.f k (⟨#[97, 98, 99]⟩ : ByteArray) ([] : List (List (S33)))).bind fun bt106 => (if t104.toList = ([97, 120, 99] : List UInt8) then (if t105 = 0 then (if bt106.1.toList = ([97, 98, 99] : List UInt8) then (some (bt106.2 == 0)) else (some false)) else (some false)) else (some false))) = some r := H
  have A1 := Aside0.mk A10
  clear A10
  replace H := Option.bind_eq_some_iff.mp H
  obtain ⟨⟨t106, t107⟩, A20, H⟩ := H
  replace H : (if t104.toList = ([97, 120, 99] : List UInt8) then (if t105 = 0 then (if t106.toList = ([97, 98, 99] : List UInt8) then (some (t107 == 0)) else (some false)) else (some false)) else (some false)) = some r := H
  have A2 := Aside0.mk A20
  clear A20
  by_cases c3 : t104.toList = ([97, 120, 99] : List UInt8)
  · rw [if_pos c3] at H
    have c3b0 : (t104.toList == ([97, 120, 99] : List UInt8)) = true := beq_iff_eq.mpr c3
    have c3b1 : (t104.toList != ([97, 120, 99] : List UInt8)) = false := bne_eq_false_iff_eq.mpr c3
    clear c3
    by_cases c4 : t105 = 0
    · rw [if_pos c4] at H
      have c4b0 : (t105 == 0) = true := beq_iff_eq.mpr c4
      have c4b1 : (t105 != 0) = false := bne_eq_false_iff_eq.mpr c4
      clear c4
      by_cases c5 : t106.toList = ([97, 98, 99] : List UInt8)
      · rw [if_pos c5] at H
        have c5b0 : (t106.toList == ([97, 98, 99] : List UInt8)) = true := beq_iff_eq.mpr c5
        have c5b1 : (t106.toList != ([97, 98, 99] : List UInt8)) = false := bne_eq_false_iff_eq.mpr c5
        clear c5
        obtain rfl := Option.some.inj H
        go_enter Tryd.func21, Tryd.ntmps21
        go_wp2_with (first | ((with_reducible refine gate_dst (N := 10) rfl ?_); refine Kd.R_lit k33 _ 33 ?hg (N := 10) ?hd (xs := ([(⟨1, 1, (⟨#[]⟩ : ByteArray)⟩ : S33), (⟨3, 1, (⟨#[]⟩ : ByteArray)⟩ : S33), (⟨2, 0, (⟨#[120]⟩ : ByteArray)⟩ : S33), (⟨1, 1, (⟨#[]⟩ : ByteArray)⟩ : S33)] : List (S33))) (inner := [.int .i64 1, .int .i64 1, .string (⟨#[]⟩ : ByteArray), .int .i64 3, .int .i64 1, .string (⟨#[]⟩ : ByteArray), .int .i64 2, .int .i64 0, .string (⟨#[120]⟩ : ByteArray), .int .i64 1, .int .i64 1, .string (⟨#[]⟩ : ByteArray)]) (ok := fun _ => True) (okp := fun _ => True) ?hr ?hp (fun _ hk => hk) trivial (Below.refl _ _) (Nat.le_refl _) (by simp) ?_; (case hd => rfl); (case hg => rfl); (case hr => first | (go_simp; done) | (go_simp; rfl)); (case hp => exact (Reps.c3 (show Kd.M k33 _ _ _ (⟨1, 1, (⟨#[]⟩ : ByteArray)⟩ : S33) [.int .i64 1, .int .i64 1, .string (⟨#[]⟩ : ByteArray)] from (k33_mkM _ _ _ (⟨1, 1, (⟨#[]⟩ : ByteArray)⟩ : S33) )) (Reps.c3 (show Kd.M k33 _ _ _ (⟨3, 1, (⟨#[]⟩ : ByteArray)⟩ : S33) [.int .i64 3, .int .i64 1, .string (⟨#[]⟩ : ByteArray)] from (k33_mkM _ _ _ (⟨3, 1, (⟨#[]⟩ : ByteArray)⟩ : S33) )) (Reps.c3 (show Kd.M k33 _ _ _ (⟨2, 0, (⟨#[120]⟩ : ByteArray)⟩ : S33) [.int .i64 2, .int .i64 0, .string (⟨#[120]⟩ : ByteArray)] from (k33_mkM _ _ _ (⟨2, 0, (⟨#[120]⟩ : ByteArray)⟩ : S33) )) (Reps.c3 (show Kd.M k33 _ _ _ (⟨1, 1, (⟨#[]⟩ : ByteArray)⟩ : S33) [.int .i64 1, .int .i64 1, .string (⟨#[]⟩ : ByteArray)] from (k33_mkM _ _ _ (⟨1, 1, (⟨#[]⟩ : ByteArray)⟩ : S33) )) (Reps.none _ _)))))); intro v102 w6 ho7 hb hg_ hnew_; clear hg_ hnew_; (first | rw [← Ny101.out] at ho7 | (simp only [Int.reduceToNat] at ho7; rw [← Ny101.out] at ho7)); have n0_ := Aside0.mk (Kd.R_lower ho7 (below_size (by repeat (first | (with_reducible first | exact HB.out | apply below_alloc | apply pw_below_drewN | apply below_drew1) | exact HB.out)))); have n1_ := Aside0.mk (below_step (by repeat (first | (with_reducible first | exact HB.out | apply below_alloc | apply pw_below_drewN | apply below_drew1) | exact HB.out)) hb); clear HB; have HO103 := n0_; have HB := n1_; clear n0_ n1_; clear hb ho7; obtain ⟨Ao8, co8, eo8⟩ := Kd.R_slice HO103.out; subst eo8) | ((with_reducible refine gate_callee (f := 22) rfl ?_); refine goesL_ (some 11) rfl rfl Tryd.func22 (by kernel_rfl) rfl #[.slice Ao8 y101.length co8, .string (⟨#[97, 98, 99]⟩ : ByteArray)] rfl (by (try simp only [List.map_toArray, List.map_cons, List.map_nil]); first | done | rfl | (simp only [List.length_drop, List.length_take]; rfl)) ?_; (with_reducible refine (apply_To.calls k _ _ y101 (⟨#[97, 98, 99]⟩ : ByteArray) t104 t105 _ ?side1 ?side2 ?side3 A1.out).mono ?_); (case side1 => first | (with_reducible exact HG.out) | exact Glob.below HG.out (by repeat (first | (with_reducible first | exact HB.out | apply below_alloc | apply pw_below_drewN | apply below_drew1) | exact HB.out)) | exact Glob.drawn HG.out (by repeat (first | exact Drawn0.refl _ | apply Drawn0.step))); (case side2 => repeat (first | exact (Kd.R_reads' HO103.out).2.2 | (with_reducible refine Kd.C_alloc ?_ _) | (with_reducible refine Kd.C_drewN ?_ _) | (with_reducible refine Kd.C_drew ?_))); (case side3 => exact (Kd.R_reads' HO103.out).2.1); rintro e w9 ⟨rfl, hb⟩; refine ⟨_, rfl, ?_⟩; have n0_ := Aside0.mk (Kd.R_below (by (with_reducible repeat (first | apply Kd.R_alloc | apply Kd.R_drewN | apply Kd.R_drew)); exact HO103.out) hb); have n1_ := Aside0.mk (below_step (by repeat (first | (with_reducible first | exact HB.out | apply below_alloc | apply pw_below_drewN | apply below_drew1) | exact HB.out)) hb); clear HO103; clear HB; have HO103 := n0_; have HB := n1_; clear n0_ n1_; (try clear hb); (try clear hb2); (try clear hk); (try clear hi)) | ((with_reducible refine gate_callee (f := 27) rfl ?_); refine goesL_ (some 15) rfl rfl Tryd.func27 (by kernel_rfl) rfl #[.string (⟨#[97, 98, 99]⟩ : ByteArray), .slice none 0 0] rfl (by (try simp only [List.map_toArray, List.map_cons, List.map_nil]); first | done | rfl | (simp only [List.length_drop, List.length_take]; rfl)) ?_; (refine (apply_All.calls k (⟨#[97, 98, 99]⟩ : ByteArray) _ _ ([] : List (List (S33))) t106 t107 _ ?side1 ?side2 ?side3 A2.out).mono ?_); (case side1 => first | (with_reducible exact HG.out) | exact Glob.below HG.out (by repeat (first | (with_reducible first | exact HB.out | apply below_alloc | apply pw_below_drewN | apply below_drew1) | exact HB.out)) | exact Glob.drawn HG.out (by repeat (first | exact Drawn0.refl _ | apply Drawn0.step))); (case side2 => exact Kd.C_nil _ _); (case side3 => exact Nat.le_refl _); rintro e w10 ⟨rfl, hb⟩; refine ⟨_, rfl, ?_⟩; have n0_ := Aside0.mk (Kd.R_below (by (with_reducible repeat (first | apply Kd.R_alloc | apply Kd.R_drewN | apply Kd.R_drew)); exact HO103.out) hb); have n1_ := Aside0.mk (below_step (by repeat (first | (with_reducible first | exact HB.out | apply below_alloc | apply pw_below_drewN | apply below_drew1) | exact HB.out)) hb); clear HO103; clear HB; have HO103 := n0_; have HB := n1_; clear n0_ n1_; (try clear hb); (try clear hb2); (try clear hk); (try clear hi)))
        go_ret
        exact ⟨by first | rfl | (simp [errW_none, errW_some] <;> rfl) | (simp [*, errW_none, errW_some] <;> rfl), by repeat (first | (with_reducible first | exact HB.out | apply below_alloc | apply pw_below_drewN | apply below_drew1) | exact HB.out)⟩
      · rw [if_neg c5] at H
        have c5b0 : (t106.toList == ([97, 98, 99] : List UInt8)) = false := beq_eq_false_iff_ne.mpr c5
        have c5b1 : (t106.toList != ([97, 98, 99] : List UInt8)) = true := bne_iff_ne.mpr c5
        obtain rfl := Option.some.inj H
        go_enter Tryd.func21, Tryd.ntmps21
        go_wp2_with (first | ((with_reducible refine gate_dst (N := 10) rfl ?_); refine Kd.R_lit k33 _ 33 ?hg (N := 10) ?hd (xs := ([(⟨1, 1, (⟨#[]⟩ : ByteArray)⟩ : S33), (⟨3, 1, (⟨#[]⟩ : ByteArray)⟩ : S33), (⟨2, 0, (⟨#[120]⟩ : ByteArray)⟩ : S33), (⟨1, 1, (⟨#[]⟩ : ByteArray)⟩ : S33)] : List (S33))) (inner := [.int .i64 1, .int .i64 1, .string (⟨#[]⟩ : ByteArray), .int .i64 3, .int .i64 1, .string (⟨#[]⟩ : ByteArray), .int .i64 2, .int .i64 0, .string (⟨#[120]⟩ : ByteArray), .int .i64 1, .int .i64 1, .string (⟨#[]⟩ : ByteArray)]) (ok := fun _ => True) (okp := fun _ => True) ?hr ?hp (fun _ hk => hk) trivial (Below.refl _ _) (Nat.le_refl _) (by simp) ?_; (case hd => rfl); (case hg => rfl); (case hr => first | (go_simp; done) | (go_simp; rfl)); (case hp => exact (Reps.c3 (show Kd.M k33 _ _ _ (⟨1, 1, (⟨#[]⟩ : ByteArray)⟩ : S33) [.int .i64 1, .int .i64 1, .string (⟨#[]⟩ : ByteArray)] from (k33_mkM _ _ _ (⟨1, 1, (⟨#[]⟩ : ByteArray)⟩ : S33) )) (Reps.c3 (show Kd.M k33 _ _ _ (⟨3, 1, (⟨#[]⟩ : ByteArray)⟩ : S33) [.int .i64 3, .int .i64 1, .string (⟨#[]⟩ : ByteArray)] from (k33_mkM _ _ _ (⟨3, 1, (⟨#[]⟩ : ByteArray)⟩ : S33) )) (Reps.c3 (show Kd.M k33 _ _ _ (⟨2, 0, (⟨#[120]⟩ : ByteArray)⟩ : S33) [.int .i64 2, .int .i64 0, .string (⟨#[120]⟩ : ByteArray)] from (k33_mkM _ _ _ (⟨2, 0, (⟨#[120]⟩ : ByteArray)⟩ : S33) )) (Reps.c3 (show Kd.M k33 _ _ _ (⟨1, 1, (⟨#[]⟩ : ByteArray)⟩ : S33) [.int .i64 1, .int .i64 1, .string (⟨#[]⟩ : ByteArray)] from (k33_mkM _ _ _ (⟨1, 1, (⟨#[]⟩ : ByteArray)⟩ : S33) )) (Reps.none _ _)))))); intro v102 w11 ho12 hb hg_ hnew_; clear hg_ hnew_; (first | rw [← Ny101.out] at ho12 | (simp only [Int.reduceToNat] at ho12; rw [← Ny101.out] at ho12)); have n0_ := Aside0.mk (Kd.R_lower ho12 (below_size (by repeat (first | (with_reducible first | exact HB.out | apply below_alloc | apply pw_below_drewN | apply below_drew1) | exact HB.out)))); have n1_ := Aside0.mk (below_step (by repeat (first | (with_reducible first | exact HB.out | apply below_alloc | apply pw_below_drewN | apply below_drew1) | exact HB.out)) hb); clear HB; have HO103 := n0_; have HB := n1_; clear n0_ n1_; clear hb ho12; obtain ⟨Ao13, co13, eo13⟩ := Kd.R_slice HO103.out; subst eo13) | ((with_reducible refine gate_callee (f := 22) rfl ?_); refine goesL_ (some 11) rfl rfl Tryd.func22 (by kernel_rfl) rfl #[.slice Ao13 y101.length co13, .string (⟨#[97, 98, 99]⟩ : ByteArray)] rfl (by (try simp only [List.map_toArray, List.map_cons, List.map_nil]); first | done | rfl | (simp only [List.length_drop, List.length_take]; rfl)) ?_; (with_reducible refine (apply_To.calls k _ _ y101 (⟨#[97, 98, 99]⟩ : ByteArray) t104 t105 _ ?side1 ?side2 ?side3 A1.out).mono ?_); (case side1 => first | (with_reducible exact HG.out) | exact Glob.below HG.out (by repeat (first | (with_reducible first | exact HB.out | apply below_alloc | apply pw_below_drewN | apply below_drew1) | exact HB.out)) | exact Glob.drawn HG.out (by repeat (first | exact Drawn0.refl _ | apply Drawn0.step))); (case side2 => repeat (first | exact (Kd.R_reads' HO103.out).2.2 | (with_reducible refine Kd.C_alloc ?_ _) | (with_reducible refine Kd.C_drewN ?_ _) | (with_reducible refine Kd.C_drew ?_))); (case side3 => exact (Kd.R_reads' HO103.out).2.1); rintro e w14 ⟨rfl, hb⟩; refine ⟨_, rfl, ?_⟩; have n0_ := Aside0.mk (Kd.R_below (by (with_reducible repeat (first | apply Kd.R_alloc | apply Kd.R_drewN | apply Kd.R_drew)); exact HO103.out) hb); have n1_ := Aside0.mk (below_step (by repeat (first | (with_reducible first | exact HB.out | apply below_alloc | apply pw_below_drewN | apply below_drew1) | exact HB.out)) hb); clear HO103; clear HB; have HO103 := n0_; have HB := n1_; clear n0_ n1_; (try clear hb); (try clear hb2); (try clear hk); (try clear hi)) | ((with_reducible refine gate_callee (f := 27) rfl ?_); refine goesL_ (some 15) rfl rfl Tryd.func27 (by kernel_rfl) rfl #[.string (⟨#[97, 98, 99]⟩ : ByteArray), .slice none 0 0] rfl (by (try simp only [List.map_toArray, List.map_cons, List.map_nil]); first | done | rfl | (simp only [List.length_drop, List.length_take]; rfl)) ?_; (refine (apply_All.calls k (⟨#[97, 98, 99]⟩ : ByteArray) _ _ ([] : List (List (S33))) t106 t107 _ ?side1 ?side2 ?side3 A2.out).mono ?_); (case side1 => first | (with_reducible exact HG.out) | exact Glob.below HG.out (by repeat (first | (with_reducible first | exact HB.out | apply below_alloc | apply pw_below_drewN | apply below_drew1) | exact HB.out)) | exact Glob.drawn HG.out (by repeat (first | exact Drawn0.refl _ | apply Drawn0.step))); (case side2 => exact Kd.C_nil _ _); (case side3 => exact Nat.le_refl _); rintro e w15 ⟨rfl, hb⟩; refine ⟨_, rfl, ?_⟩; have n0_ := Aside0.mk (Kd.R_below (by (with_reducible repeat (first | apply Kd.R_alloc | apply Kd.R_drewN | apply Kd.R_drew)); exact HO103.out) hb); have n1_ := Aside0.mk (below_step (by repeat (first | (with_reducible first | exact HB.out | apply below_alloc | apply pw_below_drewN | apply below_drew1) | exact HB.out)) hb); clear HO103; clear HB; have HO103 := n0_; have HB := n1_; clear n0_ n1_; (try clear hb); (try clear hb2); (try clear hk); (try clear hi)))
        go_ret
        exact ⟨by first | rfl | (simp [errW_none, errW_some] <;> rfl) | (simp [*, errW_none, errW_some] <;> rfl), by repeat (first | (with_reducible first | exact HB.out | apply below_alloc | apply pw_below_drewN | apply below_drew1) | exact HB.out)⟩
    · rw [if_neg c4] at H
      have c4b0 : (t105 == 0) = false := beq_eq_false_iff_ne.mpr c4
      have c4b1 : (t105 != 0) = true := bne_iff_ne.mpr c4
      obtain rfl := Option.some.inj H
      go_enter Tryd.func21, Tryd.ntmps21
      go_wp2_with (first | ((with_reducible refine gate_dst (N := 10) rfl ?_); refine Kd.R_lit k33 _ 33 ?hg (N := 10) ?hd (xs := ([(⟨1, 1, (⟨#[]⟩ : ByteArray)⟩ : S33), (⟨3, 1, (⟨#[]⟩ : ByteArray)⟩ : S33), (⟨2, 0, (⟨#[120]⟩ : ByteArray)⟩ : S33), (⟨1, 1, (⟨#[]⟩ : ByteArray)⟩ : S33)] : List (S33))) (inner := [.int .i64 1, .int .i64 1, .string (⟨#[]⟩ : ByteArray), .int .i64 3, .int .i64 1, .string (⟨#[]⟩ : ByteArray), .int .i64 2, .int .i64 0, .string (⟨#[120]⟩ : ByteArray), .int .i64 1, .int .i64 1, .string (⟨#[]⟩ : ByteArray)]) (ok := fun _ => True) (okp := fun _ => True) ?hr ?hp (fun _ hk => hk) trivial (Below.refl _ _) (Nat.le_refl _) (by simp) ?_; (case hd => rfl); (case hg => rfl); (case hr => first | (go_simp; done) | (go_simp; rfl)); (case hp => exact (Reps.c3 (show Kd.M k33 _ _ _ (⟨1, 1, (⟨#[]⟩ : ByteArray)⟩ : S33) [.int .i64 1, .int .i64 1, .string (⟨#[]⟩ : ByteArray)] from (k33_mkM _ _ _ (⟨1, 1, (⟨#[]⟩ : ByteArray)⟩ : S33) )) (Reps.c3 (show Kd.M k33 _ _ _ (⟨3, 1, (⟨#[]⟩ : ByteArray)⟩ : S33) [.int .i64 3, .int .i64 1, .string (⟨#[]⟩ : ByteArray)] from (k33_mkM _ _ _ (⟨3, 1, (⟨#[]⟩ : ByteArray)⟩ : S33) )) (Reps.c3 (show Kd.M k33 _ _ _ (⟨2, 0, (⟨#[120]⟩ : ByteArray)⟩ : S33) [.int .i64 2, .int .i64 0, .string (⟨#[120]⟩ : ByteArray)] from (k33_mkM _ _ _ (⟨2, 0, (⟨#[120]⟩ : ByteArray)⟩ : S33) )) (Reps.c3 (show Kd.M k33 _ _ _ (⟨1, 1, (⟨#[]⟩ : ByteArray)⟩ : S33) [.int .i64 1, .int .i64 1, .string (⟨#[]⟩ : ByteArray)] from (k33_mkM _ _ _ (⟨1, 1, (⟨#[]⟩ : ByteArray)⟩ : S33) )) (Reps.none _ _)))))); intro v102 w16 ho17 hb hg_ hnew_; clear hg_ hnew_; (first | rw [← Ny101.out] at ho17 | (simp only [Int.reduceToNat] at ho17; rw [← Ny101.out] at ho17)); have n0_ := Aside0.mk (Kd.R_lower ho17 (below_size (by repeat (first | (with_reducible first | exact HB.out | apply below_alloc | apply pw_below_drewN | apply below_drew1) | exact HB.out)))); have n1_ := Aside0.mk (below_step (by repeat (first | (with_reducible first | exact HB.out | apply below_alloc | apply pw_below_drewN | apply below_drew1) | exact HB.out)) hb); clear HB; have HO103 := n0_; have HB := n1_; clear n0_ n1_; clear hb ho17; obtain ⟨Ao18, co18, eo18⟩ := Kd.R_slice HO103.out; subst eo18) | ((with_reducible refine gate_callee (f := 22) rfl ?_); refine goesL_ (some 11) rfl rfl Tryd.func22 (by kernel_rfl) rfl #[.slice Ao18 y101.length co18, .string (⟨#[97, 98, 99]⟩ : ByteArray)] rfl (by (try simp only [List.map_toArray, List.map_cons, List.map_nil]); first | done | rfl | (simp only [List.length_drop, List.length_take]; rfl)) ?_; (with_reducible refine (apply_To.calls k _ _ y101 (⟨#[97, 98, 99]⟩ : ByteArray) t104 t105 _ ?side1 ?side2 ?side3 A1.out).mono ?_); (case side1 => first | (with_reducible exact HG.out) | exact Glob.below HG.out (by repeat (first | (with_reducible first | exact HB.out | apply below_alloc | apply pw_below_drewN | apply below_drew1) | exact HB.out)) | exact Glob.drawn HG.out (by repeat (first | exact Drawn0.refl _ | apply Drawn0.step))); (case side2 => repeat (first | exact (Kd.R_reads' HO103.out).2.2 | (with_reducible refine Kd.C_alloc ?_ _) | (with_reducible refine Kd.C_drewN ?_ _) | (with_reducible refine Kd.C_drew ?_))); (case side3 => exact (Kd.R_reads' HO103.out).2.1); rintro e w19 ⟨rfl, hb⟩; refine ⟨_, rfl, ?_⟩; have n0_ := Aside0.mk (Kd.R_below (by (with_reducible repeat (first | apply Kd.R_alloc | apply Kd.R_drewN | apply Kd.R_drew)); exact HO103.out) hb); have n1_ := Aside0.mk (below_step (by repeat (first | (with_reducible first | exact HB.out | apply below_alloc | apply pw_below_drewN | apply below_drew1) | exact HB.out)) hb); clear HO103; clear HB; have HO103 := n0_; have HB := n1_; clear n0_ n1_; (try clear hb); (try clear hb2); (try clear hk); (try clear hi)) | ((with_reducible refine gate_callee (f := 27) rfl ?_); refine goesL_ (some 15) rfl rfl Tryd.func27 (by kernel_rfl) rfl #[.string (⟨#[97, 98, 99]⟩ : ByteArray), .slice none 0 0] rfl (by (try simp only [List.map_toArray, List.map_cons, List.map_nil]); first | done | rfl | (simp only [List.length_drop, List.length_take]; rfl)) ?_; (refine (apply_All.calls k (⟨#[97, 98, 99]⟩ : ByteArray) _ _ ([] : List (List (S33))) t106 t107 _ ?side1 ?side2 ?side3 A2.out).mono ?_); (case side1 => first | (with_reducible exact HG.out) | exact Glob.below HG.out (by repeat (first | (with_reducible first | exact HB.out | apply below_alloc | apply pw_below_drewN | apply below_drew1) | exact HB.out)) | exact Glob.drawn HG.out (by repeat (first | exact Drawn0.refl _ | apply Drawn0.step))); (case side2 => exact Kd.C_nil _ _); (case side3 => exact Nat.le_refl _); rintro e w20 ⟨rfl, hb⟩; refine ⟨_, rfl, ?_⟩; have n0_ := Aside0.mk (Kd.R_below (by (with_reducible repeat (first | apply Kd.R_alloc | apply Kd.R_drewN | apply Kd.R_drew)); exact HO103.out) hb); have n1_ := Aside0.mk (below_step (by repeat (first | (with_reducible first | exact HB.out | apply below_alloc | apply pw_below_drewN | apply below_drew1) | exact HB.out)) hb); clear HO103; clear HB; have HO103 := n0_; have HB := n1_; clear n0_ n1_; (try clear hb); (try clear hb2); (try clear hk); (try clear hi)))
      go_ret
      exact ⟨by first | rfl | (simp [errW_none, errW_some] <;> rfl) | (simp [*, errW_none, errW_some] <;> rfl), by repeat (first | (with_reducible first | exact HB.out | apply below_alloc | apply pw_below_drewN | apply below_drew1) | exact HB.out)⟩
  · rw [if_neg c3] at H
    have c3b0 : (t104.toList == ([97, 120, 99] : List UInt8)) = false := beq_eq_false_iff_ne.mpr c3
    have c3b1 : (t104.toList != ([97, 120, 99] : List UInt8)) = true := bne_iff_ne.mpr c3
    obtain rfl := Option.some.inj H
    go_enter Tryd.func21, Tryd.ntmps21
    go_wp2_with (first | ((with_reducible refine gate_dst (N := 10) rfl ?_); refine Kd.R_lit k33 _ 33 ?hg (N := 10) ?hd (xs := ([(⟨1, 1, (⟨#[]⟩ : ByteArray)⟩ : S33), (⟨3, 1, (⟨#[]⟩ : ByteArray)⟩ : S33), (⟨2, 0, (⟨#[120]⟩ : ByteArray)⟩ : S33), (⟨1, 1, (⟨#[]⟩ : ByteArray)⟩ : S33)] : List (S33))) (inner := [.int .i64 1, .int .i64 1, .string (⟨#[]⟩ : ByteArray), .int .i64 3, .int .i64 1, .string (⟨#[]⟩ : ByteArray), .int .i64 2, .int .i64 0, .string (⟨#[120]⟩ : ByteArray), .int .i64 1, .int .i64 1, .string (⟨#[]⟩ : ByteArray)]) (ok := fun _ => True) (okp := fun _ => True) ?hr ?hp (fun _ hk => hk) trivial (Below.refl _ _) (Nat.le_refl _) (by simp) ?_; (case hd => rfl); (case hg => rfl); (case hr => first | (go_simp; done) | (go_simp; rfl)); (case hp => exact (Reps.c3 (show Kd.M k33 _ _ _ (⟨1, 1, (⟨#[]⟩ : ByteArray)⟩ : S33) [.int .i64 1, .int .i64 1, .string (⟨#[]⟩ : ByteArray)] from (k33_mkM _ _ _ (⟨1, 1, (⟨#[]⟩ : ByteArray)⟩ : S33) )) (Reps.c3 (show Kd.M k33 _ _ _ (⟨3, 1, (⟨#[]⟩ : ByteArray)⟩ : S33) [.int .i64 3, .int .i64 1, .string (⟨#[]⟩ : ByteArray)] from (k33_mkM _ _ _ (⟨3, 1, (⟨#[]⟩ : ByteArray)⟩ : S33) )) (Reps.c3 (show Kd.M k33 _ _ _ (⟨2, 0, (⟨#[120]⟩ : ByteArray)⟩ : S33) [.int .i64 2, .int .i64 0, .string (⟨#[120]⟩ : ByteArray)] from (k33_mkM _ _ _ (⟨2, 0, (⟨#[120]⟩ : ByteArray)⟩ : S33) )) (Reps.c3 (show Kd.M k33 _ _ _ (⟨1, 1, (⟨#[]⟩ : ByteArray)⟩ : S33) [.int .i64 1, .int .i64 1, .string (⟨#[]⟩ : ByteArray)] from (k33_mkM _ _ _ (⟨1, 1, (⟨#[]⟩ : ByteArray)⟩ : S33) )) (Reps.none _ _)))))); intro v102 w21 ho22 hb hg_ hnew_; clear hg_ hnew_; (first | rw [← Ny101.out] at ho22 | (simp only [Int.reduceToNat] at ho22; rw [← Ny101.out] at ho22)); have n0_ := Aside0.mk (Kd.R_lower ho22 (below_size (by repeat (first | (with_reducible first | exact HB.out | apply below_alloc | apply pw_below_drewN | apply below_drew1) | exact HB.out)))); have n1_ := Aside0.mk (below_step (by repeat (first | (with_reducible first | exact HB.out | apply below_alloc | apply pw_below_drewN | apply below_drew1) | exact HB.out)) hb); clear HB; have HO103 := n0_; have HB := n1_; clear n0_ n1_; clear hb ho22; obtain ⟨Ao23, co23, eo23⟩ := Kd.R_slice HO103.out; subst eo23) | ((with_reducible refine gate_callee (f := 22) rfl ?_); refine goesL_ (some 11) rfl rfl Tryd.func22 (by kernel_rfl) rfl #[.slice Ao23 y101.length co23, .string (⟨#[97, 98, 99]⟩ : ByteArray)] rfl (by (try simp only [List.map_toArray, List.map_cons, List.map_nil]); first | done | rfl | (simp only [List.length_drop, List.length_take]; rfl)) ?_; (with_reducible refine (apply_To.calls k _ _ y101 (⟨#[97, 98, 99]⟩ : ByteArray) t104 t105 _ ?side1 ?side2 ?side3 A1.out).mono ?_); (case side1 => first | (with_reducible exact HG.out) | exact Glob.below HG.out (by repeat (first | (with_reducible first | exact HB.out | apply below_alloc | apply pw_below_drewN | apply below_drew1) | exact HB.out)) | exact Glob.drawn HG.out (by repeat (first | exact Drawn0.refl _ | apply Drawn0.step))); (case side2 => repeat (first | exact (Kd.R_reads' HO103.out).2.2 | (with_reducible refine Kd.C_alloc ?_ _) | (with_reducible refine Kd.C_drewN ?_ _) | (with_reducible refine Kd.C_drew ?_))); (case side3 => exact (Kd.R_reads' HO103.out).2.1); rintro e w24 ⟨rfl, hb⟩; refine ⟨_, rfl, ?_⟩; have n0_ := Aside0.mk (Kd.R_below (by (with_reducible repeat (first | apply Kd.R_alloc | apply Kd.R_drewN | apply Kd.R_drew)); exact HO103.out) hb); have n1_ := Aside0.mk (below_step (by repeat (first | (with_reducible first | exact HB.out | apply below_alloc | apply pw_below_drewN | apply below_drew1) | exact HB.out)) hb); clear HO103; clear HB; have HO103 := n0_; have HB := n1_; clear n0_ n1_; (try clear hb); (try clear hb2); (try clear hk); (try clear hi)) | ((with_reducible refine gate_callee (f := 27) rfl ?_); refine goesL_ (some 15) rfl rfl Tryd.func27 (by kernel_rfl) rfl #[.string (⟨#[97, 98, 99]⟩ : ByteArray), .slice none 0 0] rfl (by (try simp only [List.map_toArray, List.map_cons, List.map_nil]); first | done | rfl | (simp only [List.length_drop, List.length_take]; rfl)) ?_; (refine (apply_All.calls k (⟨#[97, 98, 99]⟩ : ByteArray) _ _ ([] : List (List (S33))) t106 t107 _ ?side1 ?side2 ?side3 A2.out).mono ?_); (case side1 => first | (with_reducible exact HG.out) | exact Glob.below HG.out (by repeat (first | (with_reducible first | exact HB.out | apply below_alloc | apply pw_below_drewN | apply below_drew1) | exact HB.out)) | exact Glob.drawn HG.out (by repeat (first | exact Drawn0.refl _ | apply Drawn0.step))); (case side2 => exact Kd.C_nil _ _); (case side3 => exact Nat.le_refl _); rintro e w25 ⟨rfl, hb⟩; refine ⟨_, rfl, ?_⟩; have n0_ := Aside0.mk (Kd.R_below (by (with_reducible repeat (first | apply Kd.R_alloc | apply Kd.R_drewN | apply Kd.R_drew)); exact HO103.out) hb); have n1_ := Aside0.mk (below_step (by repeat (first | (with_reducible first | exact HB.out | apply below_alloc | apply pw_below_drewN | apply below_drew1) | exact HB.out)) hb); clear HO103; clear HB; have HO103 := n0_; have HB := n1_; clear n0_ n1_; (try clear hb); (try clear hb2); (try clear hk); (try clear hi)))
    go_ret
    exact ⟨by first | rfl | (simp [errW_none, errW_some] <;> rfl) | (simp [*, errW_none, errW_some] <;> rfl), by repeat (first | (with_reducible first | exact HB.out | apply below_alloc | apply pw_below_drewN | apply below_drew1) | exact HB.out)⟩
end Go.Proofs.YtkgicpnnlkcaeaaDoor.F
end
section
namespace Go.Proofs.YtkgicpnnlkcaeaaDoor.F
open Go.RowKit Go.Proofs.YtkgicpnnlkcaeaaDoorW.PrintWords Go.Proofs.YtkgicpnnlkcaeaaDoorW.PrintLast Go.Proofs.YtkgicpnnlkcaeaaDoorW.PrintMore
set_option linter.unusedVariables false
set_option linter.unusedSimpArgs false
def app : List U → List Int → List Int
  | [], _ => []
  | .p r :: x, t => r :: app x t
  | .k :: x, c :: t => c :: app x t
  | .d :: x, _ :: t => app x t
  | .k :: _, [] => []
  | .d :: _, [] => []
theorem app_put (l : List Int) (x : List U) (t : List Int) : app (l.map .p ++ x) t = l ++ app x t := by
  induction l with
  | nil => rfl
  | cons r l ih => rw [List.map_cons, List.cons_append, app, ih, List.cons_append]
theorem app_keep : ∀ (n : Nat) (x : List U) (t : List Int), n ≤ t.length → app (List.replicate n .k ++ x) t = t.take n ++ app x (t.drop n)
  | 0, x, t, _ => by simp
  | n + 1, x, [], h => by simp at h
  | n + 1, x, c :: t, h => by
    rw [List.replicate_succ, List.cons_append, app, app_keep n x t (by simpa using h)]
    rfl
theorem app_drop : ∀ (n : Nat) (x : List U) (t : List Int), n ≤ t.length → app (List.replicate n .d ++ x) t = app x (t.drop n)
  | 0, x, t, _ => by simp
  | n + 1, x, [], h => by simp at h
  | n + 1, x, c :: t, h => by
    rw [List.replicate_succ, List.cons_append, app, app_drop n x t (by simpa using h)]
    rfl
theorem app_runes : ∀ (x : List U) (t : List Int), RunesU x → Runes t → Runes (app x t)
  | [], _, _, _ => Runes.nil
  | .p r :: x, t, hx, ht => by
    intro z hz
    rw [app] at hz
    rcases List.mem_cons.1 hz with rfl | hz
    · exact hx z (by simp)
    · exact app_runes x t hx.tail ht z hz
  | .k :: x, c :: t, hx, ht => by
    intro z hz
    rw [app] at hz
    rcases List.mem_cons.1 hz with rfl | hz
    · exact ht z (by simp)
    · exact app_runes x t hx.tail (Runes.cons ht).2 z hz
  | .d :: x, c :: t, hx, ht => by
    rw [app]
    exact app_runes x t hx.tail (Runes.cons ht).2
  | .k :: _, [], _, _ => Runes.nil
  | .d :: _, [], _, _ => Runes.nil
theorem app_length : ∀ (x : List U) (t : List Int), cinU x = t.length → (app x t).length = coutU x
  | [], _, _ => rfl
  | .p r :: x, t, h => by rw [app, List.length_cons, app_length x t h]; rfl
  | .k :: x, c :: t, h => by rw [app, List.length_cons, app_length x t (by simp [cinU] at h; exact h)]; rfl
  | .d :: x, c :: t, h => by rw [app, app_length x t (by simp [cinU] at h; exact h)]; rfl
  | .k :: _, [], h => by simp [cinU] at h
  | .d :: _, [], h => by simp [cinU] at h
theorem app_append : ∀ (x y : List U) (s t : List Int), cinU x = s.length → app (x ++ y) (s ++ t) = app x s ++ app y t
  | [], y, s, t, h => by
    have : s = [] := List.eq_nil_of_length_eq_zero h.symm
    subst this
    rfl
  | .p r :: x, y, s, t, h => by rw [List.cons_append, app, app, app_append x y s t h]; rfl
  | .k :: x, y, c :: s, t, h => by rw [List.cons_append, List.cons_append, app, app, app_append x y s t (by simp [cinU] at h; exact h)]; rfl
  | .d :: x, y, c :: s, t, h => by rw [List.cons_append, List.cons_append, app, app, app_append x y s t (by simp [cinU] at h; exact h)]
  | .k :: _, y, [], t, h => by simp [cinU] at h
  | .d :: _, y, [], t, h => by simp [cinU] at h
theorem apply_loop (l : List Un) (hl : Ok l) : ∀ (r pre : List Un) (t out : List Int), l = pre ++ r → (r.map Un.cin).sum = t.length → Runes t → Runes out → out.length + (r.map Un.cout).sum ≤ 1099511627776 →
    Ev (fun k => apply_To.l0 k t out (l.map Un.sp) ((l.map Un.sp).length : Int) (pre.length : Int)) (encT (out ++ app (exU r) t), 0)
  | [], pre, t, out, h, hc, ht, ho, hn => by
    refine Ev.step (f := fun _ => some (encT (out ++ app (exU []) t), 0)) (fun k => ?_) (Ev.now _)
    rw [apply_To.l0, if_neg (by subst h; simp), runesStr_enc _ ho]
    simp [exU, app]
  | u :: r, pre, t, out, h, hc, ht, ho, hn => by
    have hlt : (pre.length : Int) < ((l.map Un.sp).length : Int) := by subst h; simp <;> omega
    have hll : pre.length + (r.length + 1) = l.length := by subst h; simp
    have hle := hl.len
    have hrd : rd_T33 (l.map Un.sp) (pre.length : Int) = u.sp := by
      rw [h, List.map_append, List.map_cons]
      exact rdS_at (by simp)
    have hok := hl.ok u (by rw [h]; simp)
    have ih := fun t out => apply_loop l hl r (pre ++ [u]) t out (by simp [h])
    simp only [List.map_cons, List.sum_cons] at hc hn
    rw [exU_cons]
    cases u with
    | put p =>
      have hc : 0 + (r.map Un.cin).sum = t.length := hc
      have hn : out.length + (p.length + (r.map Un.cout).sum) ≤ 1099511627776 := hn
      have := ih t (out ++ p) (by omega) ht (Runes.append ho hok) (by simp; omega)
      rw [show (Un.put p).ex = p.map .p from rfl, app_put, ← List.append_assoc]
      refine Ev.step (fun k => ?_) this
      rw [apply_To.l0, if_pos hlt, if_pos (by omega), if_pos hlt, hrd, if_pos (show (Un.put p).sp.f0 = 2 from rfl), show (Un.put p).sp.f2 = encT p from rfl, strRunes_enc p hok (by omega), Option.bind_some, if_pos (by omega)]
      rw [show (Un.put p).sp.f1 = 0 from rfl, if_pos (by omega), if_pos (by omega), w64_succ _ (by omega)]
      simp
    | keep n =>
      have hc : n + (r.map Un.cin).sum = t.length := hc
      have hn : out.length + (n + (r.map Un.cout).sum) ≤ 1099511627776 := hn
      have := ih (t.drop n) (out ++ t.take n) (by rw [List.length_drop]; omega) (ht.drop n) (Runes.append ho (ht.take n)) (by simp; omega)
      rw [show (Un.keep n).ex = List.replicate n .k from rfl, app_keep n _ _ (by omega), ← List.append_assoc]
      refine Ev.step (fun k => ?_) this
      rw [apply_To.l0, if_pos hlt, if_pos (by omega), if_pos hlt, hrd, if_neg (show ¬ (Un.keep n).sp.f0 = 2 by simp [Un.sp]), if_pos (show (Un.keep n).sp.f0 = 1 from rfl), show (Un.keep n).sp.f1 = (n : Int) from rfl, if_pos (by omega), if_pos (by omega), Int.toNat_natCast, Option.bind_some, if_pos (by simp; omega), w64_succ _ (by omega)]
      simp
    | drop n =>
      have hc : n + (r.map Un.cin).sum = t.length := hc
      have hn : out.length + (0 + (r.map Un.cout).sum) ≤ 1099511627776 := hn
      have := ih (t.drop n) out (by rw [List.length_drop]; omega) (ht.drop n) ho (by omega)
      rw [show (Un.drop n).ex = List.replicate n .d from rfl, app_drop n _ _ (by omega)]
      refine Ev.step (fun k => ?_) this
      rw [apply_To.l0, if_pos hlt, if_pos (by omega), if_pos hlt, hrd, if_neg (show ¬ (Un.drop n).sp.f0 = 2 by simp [Un.sp]), if_neg (show ¬ (Un.drop n).sp.f0 = 1 by simp [Un.sp]), show (Un.drop n).sp.f1 = (n : Int) from rfl, if_pos (by omega), if_pos (by omega), Int.toNat_natCast, w64_succ _ (by omega)]
      simp
theorem applyTo_is {us : List Un} (h : Ok us) (t : List Int) (ht : Runes t) (hc : (us.map Un.cin).sum = t.length) : Ev (fun k => apply_To.f k (us.map Un.sp) (encT t)) (encT (app (exU us) t), 0) := by
  have hci := h.cin
  have hco := h.cout
  unfold apply_To.f
  refine Ev.bind (opMay_is h) (ev_if_pos rfl ?_)
  refine ev_some (count_enc t ht (by omega)) (ev_if_neg (by omega) ?_)
  refine Ev.bind (opIn_is h) (ev_if_pos (by omega) ?_)
  refine ev_some (strRunes_enc t ht (by omega)) ?_
  have := apply_loop us h us [] t [] rfl hc ht Runes.nil (by simpa using hco)
  simpa using this
theorem fitRunes_runes (s : ByteArray) : Runes (fitRunes s) := fun r hr => alpha_rune r (fitRunes_mem s r hr)
theorem fit01_head (a : ByteArray) (m : Nat) (ha : a.size ≤ maxLen) (hm : m ≤ 1099511627776) :
    0 ≤ mn (a.size : Int) (m : Int) ∧ mn (a.size : Int) (m : Int) ≤ (a.size : Int) ∧ ∃ t : List Int, Runes t ∧ t.length ≤ m ∧ (∀ r ∈ t, r ∈ alpha) ∧ Ev (fun k => epitomeref01_Fit.f k (a.extract 0 (mn (a.size : Int) (m : Int)).toNat)) (encT t) := by
  have h1 := mn_le (a.size : Int) (m : Int)
  have h2 := extract_size a (mn (a.size : Int) (m : Int)).toNat
  refine ⟨by omega, by omega, fitRunes (a.extract 0 (mn (a.size : Int) (m : Int)).toNat), fitRunes_runes _, by rw [fitRunes_length]; omega, fitRunes_mem _, fit01_is _ (by omega)⟩
end Go.Proofs.YtkgicpnnlkcaeaaDoor.F
end
section
namespace Go.Proofs.YtkgicpnnlkcaeaaDoor.F
open Go.RowKit Go.Proofs.YtkgicpnnlkcaeaaDoorW.PrintWords Go.Proofs.YtkgicpnnlkcaeaaDoorW.PrintLast Go.Proofs.YtkgicpnnlkcaeaaDoorW.PrintMore
set_option linter.unusedVariables false
set_option linter.unusedSimpArgs false
def shownA : List Un := [.keep 1, .drop 1, .put [120], .keep 1]
theorem shownA_sp : shownA.map Un.sp = ([(⟨1, 1, (⟨#[]⟩ : ByteArray)⟩ : Sp), (⟨3, 1, (⟨#[]⟩ : ByteArray)⟩ : Sp), (⟨2, 0, (⟨#[120]⟩ : ByteArray)⟩ : Sp), (⟨1, 1, (⟨#[]⟩ : ByteArray)⟩ : Sp)] : List Sp) := rfl
theorem small_rune {l : List Int} (h : ∀ r ∈ l, 0 ≤ r ∧ r < 128) : Runes l := fun r hr => .inl ⟨(h r hr).1, by have := (h r hr).2; omega⟩
theorem shownA_ok : Ok shownA := by
  refine ⟨?_, by decide, by decide, by decide⟩
  intro u hu
  simp [shownA] at hu
  rcases hu with rfl | rfl | rfl | rfl
  · trivial
  · trivial
  · exact small_rune (by simp)
  · trivial
theorem shown07 : Ev (fun k => epitomelaw07_shown.f k) true := by
  have abc : Runes [97, 98, 99] := small_rune (by simp)
  have e : (⟨#[97, 98, 99]⟩ : ByteArray) = encT [97, 98, 99] := rfl
  unfold epitomelaw07_shown.f
  rw [← shownA_sp, e]
  refine Ev.bind (applyTo_is shownA_ok [97, 98, 99] abc (by decide)) ?_
  have all : Ev (fun k => apply_All.f k (encT [97, 98, 99]) ([] : List (List Sp))) (encT [97, 98, 99], 0) := by
    unfold apply_All.f
    refine ev_if_pos rfl (ev_some (validStr_enc _ abc (by decide)) ?_)
    refine Ev.step (f := fun k => apply_All.l0 k (encT [97, 98, 99]) [] 0 0) (fun k => ?_) ?_
    · rw [apply_All.j0, if_neg (by simp)]
      rfl
    · refine Ev.step (f := fun _ => some (encT [97, 98, 99], 0)) (fun k => ?_) (Ev.now _)
      rw [apply_All.l0, if_neg (by omega)]
  refine Ev.bind all ?_
  have t1 : (encT (app (exU shownA) [97, 98, 99])).toList = [97, 120, 99] := by rw [ByteArray.toList_eq]; rfl
  have t2 : (encT [97, 98, 99]).toList = [97, 98, 99] := by rw [ByteArray.toList_eq]; rfl
  exact ev_if_pos t1 (ev_if_pos rfl (ev_if_pos t2 (Ev.now _)))
end Go.Proofs.YtkgicpnnlkcaeaaDoor.F
end
