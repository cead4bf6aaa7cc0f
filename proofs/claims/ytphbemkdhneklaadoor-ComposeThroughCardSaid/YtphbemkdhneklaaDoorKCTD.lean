import Derived.Test.YtphbemkdhneklaaDoorKCTC
import Derived.Below
import Derived.Deep.Draws
import Derived.Deep.AppendLies
import Derived.Maps.AppendAt
import Derived.OwnWalk
import Derived.Laws.BytesArg
import Derived.Laws.MakeOwn
import Derived.Laws.OwnMore
import Derived.Deep.OwnRows
import Derived.Tactics
import Derived.Lib.ConvBytes
import Derived.Laws.Slices
import Derived.WalkKit
import Derived.KernelRfl
import Derived.RowKit3
import Derived.Deep.LoopGhost
import Derived.Deep.QuietTactic
import Derived.BigQuiet
import Derived.WideLaws
import Derived.Deep.DeepCutAuto
import Derived.Deep.CutBlock
import Derived.Deep.RegionHeld3
import Derived.Laws.Rows
import Derived.Lib.AppendStr
import Derived.ArgAppend
import Derived.Laws.IdiomCopy
import Derived.RowKit
import Derived.OrdersHeld
import Derived.Laws.BitsLemmas
import Derived.Laws.StructEq
import Derived.Test.YtphbemkdhneklaaDoorProg
import Derived.Handy
import Derived.Shelf.Unicode.DecodeSlow
import Derived.Ground.NamesProg
import Derived.Shelf.Unicode.ValidAny
import Derived.Laws.RangeString
import Derived.Laws.RangeAny
import Derived.Lib.RuneCount
import Derived.Laws.IdiomStrings
import Derived.Laws.Cover4
import Derived.Great.BuildSlice
import Derived.RangeFuncNested
import Derived.RangeFuncBound
import Derived.RangeFuncCalls
import Derived.RangeFuncLeaves
import Derived.Shelf.Abstract
import Derived.Shelf.RegionOpen
import Derived.OwnWalkIn
import Derived.TacticsInMore
import Derived.LoopNIn
import Derived.LoopIn
section
namespace Go.Proofs.YtphbemkdhneklaaDoor.F
open Go.RowKit Go.Proofs.YtphbemkdhneklaaDoorW.PrintWords Go.Proofs.YtphbemkdhneklaaDoorW.PrintLast Go.Proofs.YtphbemkdhneklaaDoorW.PrintMore
attribute [local go_sem] max2_int min2_int max_two min_two max_three min_three max_four min_four cell_setCell_isSome
set_option linter.unusedVariables false
set_option linter.unusedSimpArgs false
def epitomeref01_Fit.l0 : Nat → ByteArray → List Int → Int → Int → Int → Int → Int → Int → Int → Int → Int → Option (ByteArray)
  | 0, _, _, _, _, _, _, _, _, _, _, _ => none
  | k + 1, x0, x4, x5, x102000, x102001, x102002, x102003, x102004, x102005, x102006, x102007 => if x5 < (x0.size : Int) then (if 0 ≤ x5 then ((fit_rune.f x102000 x102001 x102002 x102003 x102004 x102005 x102006 x102007 (Int.tmod (bt x0 x5) 8)).bind fun t105 => (if x4.length < 35184372088832 then (epitomeref01_Fit.l0 k x0 (x4 ++ [t105]) (wrap64 (x5 + 1)) x102000 x102001 x102002 x102003 x102004 x102005 x102006 x102007) else (none))) else (none)) else ((epitomeref01_Of.f k x4).bind fun t109 => (some t109))
def epitomeref01_Fit.f (k : Nat) (a0 : ByteArray) : Option (ByteArray) := epitomeref01_Fit.l0 k a0 (([] : List Int)) 0 97 98 99 120 121 233 8364 128512
theorem epitomeref01_Fit.mono_l : ∀ k, (∀ y0 y1 y2 y3 y4 y5 y6 y7 y8 y9 y10, LeO (epitomeref01_Fit.l0 k y0 y1 y2 y3 y4 y5 y6 y7 y8 y9 y10) (epitomeref01_Fit.l0 (k + 1) y0 y1 y2 y3 y4 y5 y6 y7 y8 y9 y10))
  | 0 => fun _ _ _ _ _ _ _ _ _ _ _ r h => by simp [epitomeref01_Fit.l0] at h
  | k + 1 => by
    have ih0 := epitomeref01_Fit.mono_l k
    · intro y0 y1 y2 y3 y4 y5 y6 y7 y8 y9 y10
      unfold epitomeref01_Fit.l0
      repeat' first
      | (with_reducible exact ih0 _ _ _ _ _ _ _ _ _ _ _)
      | (with_reducible exact epitomeref01_Of.mono _ _)
      | (with_reducible exact LeO.refl _)
      | (with_reducible exact LeO.none _)
      | (with_reducible refine LeO.ite ?_ ?_)
      | (with_reducible refine LeO.bind ?_ (fun _ => ?_))
      | exact ih0 _ _ _ _ _ _ _ _ _ _ _
      | exact epitomeref01_Of.mono _ _
      | exact LeO.none _
      | refine LeO.ite ?_ ?_
      | refine LeO.bind ?_ (fun _ => ?_)
theorem epitomeref01_Fit.mono : ∀ a0 k, LeO (epitomeref01_Fit.f k a0) (epitomeref01_Fit.f (k + 1) a0) := by
  intro a0 k
  have ih0 := epitomeref01_Fit.mono_l k
  unfold epitomeref01_Fit.f
  repeat' first
      | (with_reducible exact ih0 _ _ _ _ _ _ _ _ _ _ _)
      | (with_reducible exact epitomeref01_Of.mono _ _)
      | (with_reducible exact LeO.refl _)
      | (with_reducible exact LeO.none _)
      | (with_reducible refine LeO.ite ?_ ?_)
      | (with_reducible refine LeO.bind ?_ (fun _ => ?_))
      | exact ih0 _ _ _ _ _ _ _ _ _ _ _
      | exact epitomeref01_Of.mono _ _
      | exact LeO.none _
      | refine LeO.ite ?_ ?_
      | refine LeO.bind ?_ (fun _ => ?_)
set_option maxHeartbeats 8000000 in
set_option maxRecDepth 100000 in
theorem epitomeref01_Fit.calls (k : Nat) (a0 : ByteArray) (r : ByteArray) (w : World) (h : epitomeref01_Fit.f k a0 = some r) :
    Calls Tryd.prog 36 #[.string a0] w fun e w' => e = .returned (.string r) ∧ Below w.heap.size w w' := by
  have hu85 := Tryd.underlying85
  have HB := Aside0.mk (Below.refl w.heap.size w)
  have H : (epitomeref01_Fit.l0 k a0 (([] : List Int)) 0 97 98 99 120 121 233 8364 128512) = some r := h
  clear h
  obtain ⟨y102, hy102⟩ : ∃ y_ : List Int, y_ = (([] : List Int)) := ⟨_, rfl⟩
  replace H : (epitomeref01_Fit.l0 k a0 y102 0 97 98 99 120 121 233 8364 128512) = some r := by first | (rw [hy102]; with_reducible exact H) | (have H2_ := (Option.bind_some _ _).symm.trans H; rw [hy102]; with_reducible exact H2_) | (have H2_ := (Option.bind_some _ _).symm.trans H; with_reducible exact H2_) | with_reducible exact H | (rw [hy102]; exact H) | exact H
  have Ny102 := Aside0.mk hy102
  clear hy102
  have H' := Aside0.mk H
  clear H
  go_enter Tryd.func36, Tryd.ntmps36
  go_wp2_with (first | ((with_reducible refine gate_dst (N := 3) rfl ?_); refine box_event ?hg (N := 3) ?hd (cs := #[.int .i32 0, .int .i32 0, .int .i32 0, .int .i32 0, .int .i32 0, .int .i32 0, .int .i32 0, .int .i32 0]) (t := 85) ?hr ?_; (case hd => rfl); (case hg => rfl); (case hr => first | (go_simp; done) | (go_simp; rfl)); intro gb101 hg w2 hbox hb; have n0_ := Aside0.mk (below_step (by repeat (first | (with_reducible first | exact HB.out | apply below_alloc | apply pw_below_drewN | apply below_drew1) | exact HB.out)) hb); have n1_ := Aside0.mk (hbox); have n2_ := Aside0.mk ((by rw [hg]; exact (below_size (by repeat (first | (with_reducible first | exact HB.out | apply below_alloc | apply pw_below_drewN | apply below_drew1) | exact HB.out))) : w.heap.size ≤ gb101)); have n3_ := Aside0.mk ((by rw [hg]; exact (below_size (by repeat (first | (with_reducible first | exact HB.out | apply below_alloc | apply pw_below_drewN | apply below_drew1) | exact HB.out))) : w.heap.size ≤ gb101)); clear HB; have HB := n0_; have BK101 := n1_; have GW101 := n2_; have GE101 := n3_; clear n0_ n1_ n2_ n3_; clear hb hbox hg; have hcz3_0 : w2.cell? ⟨gb101, 0, none⟩ = some (.int .i32 0) := (blk_cell BK101.out 0).trans rfl; have hcz3_1 : w2.cell? ⟨gb101, 1, none⟩ = some (.int .i32 0) := (blk_cell BK101.out 1).trans rfl; have hcz3_2 : w2.cell? ⟨gb101, 2, none⟩ = some (.int .i32 0) := (blk_cell BK101.out 2).trans rfl; have hcz3_3 : w2.cell? ⟨gb101, 3, none⟩ = some (.int .i32 0) := (blk_cell BK101.out 3).trans rfl; have hcz3_4 : w2.cell? ⟨gb101, 4, none⟩ = some (.int .i32 0) := (blk_cell BK101.out 4).trans rfl; have hcz3_5 : w2.cell? ⟨gb101, 5, none⟩ = some (.int .i32 0) := (blk_cell BK101.out 5).trans rfl; have hcz3_6 : w2.cell? ⟨gb101, 6, none⟩ = some (.int .i32 0) := (blk_cell BK101.out 6).trans rfl; have hcz3_7 : w2.cell? ⟨gb101, 7, none⟩ = some (.int .i32 0) := (blk_cell BK101.out 7).trans rfl; have hfz3_0 := blk_frozen BK101.out 0; have hfz3_1 := blk_frozen BK101.out 1; have hfz3_2 := blk_frozen BK101.out 2; have hfz3_3 := blk_frozen BK101.out 3; have hfz3_4 := blk_frozen BK101.out 4; have hfz3_5 := blk_frozen BK101.out 5; have hfz3_6 := blk_frozen BK101.out 6; have hfz3_7 := blk_frozen BK101.out 7) | ((with_reducible refine gate_dst (N := 7) rfl ?_); refine Kd.R_lit (Kd.int .i32) _ 21 ?hg (N := 7) ?hd (xs := ([] : List Int)) (inner := []) (ok := fun _ => True) (okp := fun _ => True) ?hr ?hp (fun _ hk => hk) trivial (Below.refl _ _) (Nat.le_refl _) (by simp) ?_; (case hd => rfl); (case hg => rfl); (case hr => first | (go_simp; done) | (go_simp; rfl)); (case hp => exact (Reps.none _ _)); intro v103 w4 ho5 hb hg_ hnew_; clear hg_ hnew_; (first | rw [← Ny102.out] at ho5 | (simp only [Int.reduceToNat] at ho5; rw [← Ny102.out] at ho5)); have n0_ := Aside0.mk (Kd.R_lower ho5 (below_size (by repeat (first | (with_reducible first | exact HB.out | apply below_alloc | apply pw_below_drewN | apply below_drew1 | refine below_set ?_ GE101.out) | exact HB.out)))); have n1_ := Aside0.mk (blk_below (g := gb101) (o := .cells #[.int .i32 97, .int .i32 98, .int .i32 99, .int .i32 120, .int .i32 121, .int .i32 233, .int .i32 8364, .int .i32 128512] 85 (0, 0)) (by (with_reducible repeat (first | refine blk_drewN ?_ _ | refine blk_drew ?_ | refine blk_alloc ?_ _)); refine blk_put (cs := #[.int .i32 97, .int .i32 98, .int .i32 99, .int .i32 120, .int .i32 121, .int .i32 233, .int .i32 8364, .int .i32 0]) ?_ 7 _ rfl; (with_reducible repeat (first | refine blk_drewN ?_ _ | refine blk_drew ?_ | refine blk_alloc ?_ _)); refine blk_put (cs := #[.int .i32 97, .int .i32 98, .int .i32 99, .int .i32 120, .int .i32 121, .int .i32 233, .int .i32 0, .int .i32 0]) ?_ 6 _ rfl; (with_reducible repeat (first | refine blk_drewN ?_ _ | refine blk_drew ?_ | refine blk_alloc ?_ _)); refine blk_put (cs := #[.int .i32 97, .int .i32 98, .int .i32 99, .int .i32 120, .int .i32 121, .int .i32 0, .int .i32 0, .int .i32 0]) ?_ 5 _ rfl; (with_reducible repeat (first | refine blk_drewN ?_ _ | refine blk_drew ?_ | refine blk_alloc ?_ _)); refine blk_put (cs := #[.int .i32 97, .int .i32 98, .int .i32 99, .int .i32 120, .int .i32 0, .int .i32 0, .int .i32 0, .int .i32 0]) ?_ 4 _ rfl; (with_reducible repeat (first | refine blk_drewN ?_ _ | refine blk_drew ?_ | refine blk_alloc ?_ _)); refine blk_put (cs := #[.int .i32 97, .int .i32 98, .int .i32 99, .int .i32 0, .int .i32 0, .int .i32 0, .int .i32 0, .int .i32 0]) ?_ 3 _ rfl; (with_reducible repeat (first | refine blk_drewN ?_ _ | refine blk_drew ?_ | refine blk_alloc ?_ _)); refine blk_put (cs := #[.int .i32 97, .int .i32 98, .int .i32 0, .int .i32 0, .int .i32 0, .int .i32 0, .int .i32 0, .int .i32 0]) ?_ 2 _ rfl; (with_reducible repeat (first | refine blk_drewN ?_ _ | refine blk_drew ?_ | refine blk_alloc ?_ _)); refine blk_put (cs := #[.int .i32 97, .int .i32 0, .int .i32 0, .int .i32 0, .int .i32 0, .int .i32 0, .int .i32 0, .int .i32 0]) ?_ 1 _ rfl; (with_reducible repeat (first | refine blk_drewN ?_ _ | refine blk_drew ?_ | refine blk_alloc ?_ _)); refine blk_put (cs := #[.int .i32 0, .int .i32 0, .int .i32 0, .int .i32 0, .int .i32 0, .int .i32 0, .int .i32 0, .int .i32 0]) ?_ 0 _ rfl; (with_reducible repeat (first | refine blk_drewN ?_ _ | refine blk_drew ?_ | refine blk_alloc ?_ _)); exact BK101.out) hb); have n2_ := Aside0.mk (below_step (by repeat (first | (with_reducible first | exact HB.out | apply below_alloc | apply pw_below_drewN | apply below_drew1 | refine below_set ?_ GE101.out) | exact HB.out)) hb); clear BK101; clear HB; have HO104 := n0_; have BK101 := n1_; have HB := n2_; clear n0_ n1_ n2_; clear hb ho5))
  go_loopg [4, 5] k (fun kq v4 v5 w' => ∃ (x4_1 : List Int) (x5_1 : Int), v5 = .int .i64 x5_1 ∧ Aside0 (epitomeref01_Fit.l0 kq a0 x4_1 x5_1 97 98 99 120 121 233 8364 128512 = some r) ∧ Aside0 (kq ≤ k) ∧ Aside0 (Kd.R (Kd.int .i32) 21 w' w.heap.size (fun _ => True) v4 x4_1) ∧ Aside0 (w'.heap[gb101]? = some (.cells #[.int .i32 97, .int .i32 98, .int .i32 99, .int .i32 120, .int .i32 121, .int .i32 233, .int .i32 8364, .int .i32 128512] 85 (0, 0))) ∧ Aside0 (Below w.heap.size w w'))
  case atStart => exact ⟨(y102), (0), (by first | rfl | (simp; done) | (simp [*]; done)), H', ⟨Nat.le_refl _⟩, ⟨by (with_reducible repeat (first | apply Kd.R_alloc | apply Kd.R_drewN | apply Kd.R_drew)); exact HO104.out⟩, ⟨by (with_reducible repeat (first | refine blk_drewN ?_ _ | refine blk_drew ?_ | refine blk_alloc ?_ _)); exact BK101.out⟩, ⟨by repeat (first | (with_reducible first | exact HB.out | apply below_alloc | apply pw_below_drewN | apply below_drew1 | refine below_set ?_ GE101.out) | exact HB.out)⟩⟩
  case round =>
    clear H'
    try clear p2
    try clear c3
    try clear hcz3_0
    try clear hcz3_1
    try clear hcz3_2
    try clear hcz3_3
    try clear hcz3_4
    try clear hcz3_5
    try clear hcz3_6
    try clear hcz3_7
    try clear hfz3_0
    try clear hfz3_1
    try clear hfz3_2
    try clear hfz3_3
    try clear hfz3_4
    try clear hfz3_5
    try clear hfz3_6
    try clear hfz3_7
    obtain ⟨x4_1, x5_1, rfl, HA, HK1, HO_4, BK101, HB⟩ := hrel
    cases gk with
    | zero => exact absurd HA.out (by simp [epitomeref01_Fit.l0])
    | succ k1 =>
      have H := HA.out
      clear HA
      simp only [epitomeref01_Fit.l0] at H
      by_cases c6 : x5_1 < (a0.size : Int)
      · rw [if_pos c6] at H
        have c6b0 : decide (x5_1 < (a0.size : Int)) = true := decide_eq_true c6
        clear c6
        by_cases c7 : 0 ≤ x5_1
        · rw [if_pos c7] at H
          have c7b0 : decide (0 ≤ x5_1) = true := decide_eq_true c7
          clear c7
          replace H := Option.bind_eq_some_iff.mp H
          obtain ⟨t105, A90, H⟩ := H
          replace H : (if x4_1.length < 35184372088832 then (epitomeref01_Fit.l0 k1 a0 (x4_1 ++ [t105]) (wrap64 (x5_1 + 1)) 97 98 99 120 121 233 8364 128512) else (none)) = some r := H
          have A9 := Aside0.mk A90
          clear A90
          by_cases c10 : x4_1.length < 35184372088832
          · rw [if_pos c10] at H
            have LMc10 := Aside0.mk c10
            clear c10
            obtain ⟨y106, hy106⟩ : ∃ y_ : List Int, y_ = (x4_1 ++ [t105]) := ⟨_, rfl⟩
            replace H : (epitomeref01_Fit.l0 k1 a0 y106 (wrap64 (x5_1 + 1)) 97 98 99 120 121 233 8364 128512) = some r := by first | (rw [hy106]; with_reducible exact H) | (have H2_ := (Option.bind_some _ _).symm.trans H; rw [hy106]; with_reducible exact H2_) | (have H2_ := (Option.bind_some _ _).symm.trans H; with_reducible exact H2_) | with_reducible exact H | (rw [hy106]; exact H) | exact H
            have Ny106 := Aside0.mk hy106
            clear hy106
            have H' := Aside0.mk H
            clear H
            have p8 : 0 ≤ (x5_1 : Int) := of_decide_eq_true (by first | (with_reducible assumption) | assumption)
            have q8 : x5_1 < (a0.size : Int) := of_decide_eq_true (by first | (with_reducible assumption) | assumption)
            have hx8 := bt_at a0 x5_1
            replace p8 := eq_true p8
            replace q8 := eq_true q8
            have hcz11_0 : wr.cell? ⟨gb101, 0, none⟩ = some (.int .i32 97) := (blk_cell BK101.out 0).trans rfl
            have hcz11_1 : wr.cell? ⟨gb101, 1, none⟩ = some (.int .i32 98) := (blk_cell BK101.out 1).trans rfl
            have hcz11_2 : wr.cell? ⟨gb101, 2, none⟩ = some (.int .i32 99) := (blk_cell BK101.out 2).trans rfl
            have hcz11_3 : wr.cell? ⟨gb101, 3, none⟩ = some (.int .i32 120) := (blk_cell BK101.out 3).trans rfl
            have hcz11_4 : wr.cell? ⟨gb101, 4, none⟩ = some (.int .i32 121) := (blk_cell BK101.out 4).trans rfl
            have hcz11_5 : wr.cell? ⟨gb101, 5, none⟩ = some (.int .i32 233) := (blk_cell BK101.out 5).trans rfl
            have hcz11_6 : wr.cell? ⟨gb101, 6, none⟩ = some (.int .i32 8364) := (blk_cell BK101.out 6).trans rfl
            have hcz11_7 : wr.cell? ⟨gb101, 7, none⟩ = some (.int .i32 128512) := (blk_cell BK101.out 7).trans rfl
            have hfz11_0 := blk_frozen BK101.out 0
            have hfz11_1 := blk_frozen BK101.out 1
            have hfz11_2 := blk_frozen BK101.out 2
            have hfz11_3 := blk_frozen BK101.out 3
            have hfz11_4 := blk_frozen BK101.out 4
            have hfz11_5 := blk_frozen BK101.out 5
            have hfz11_6 := blk_frozen BK101.out 6
            have hfz11_7 := blk_frozen BK101.out 7
            have f8b := rem8 (bt a0 x5_1) (bt_nonneg _ _)
            have f8c := fit_cell BK101.out A9.out
            have f8p := eq_true f8b.1
            have f8q := eq_true f8b.2
            have huA := Tryd.underlying85
            clear f8b
            go_wp2_with (first | ((with_reducible refine gate_builtin (b := .append) (xs := #[.tmp 14, .tmp 21]) rfl ?_); at_builtin; refine Kd.R_append (Kd.int .i32) (w0 := w) w.heap.size rfl (.tmp 14) (.tmp 21) 86 21 (.int .i32 0) 4 rfl Tryd.underlying86 info21 rfl (by decide) (by omega) u4 x4_1 t105 [.int .i32 t105] (fun _ => True) (fun _ => False) rfl rfl ?aP (fun _ hk => hk.elim) ?aF ?aO ?aB ?aS ?aL ?_; (case aP => exact rfl); (case aB => exact (by repeat (first | (with_reducible first | exact HB.out | apply below_alloc | apply pw_below_drewN | apply below_drew1 | refine below_set ?_ GE101.out) | exact HB.out))); (case aF => exact (fun _ _ => trivial)); (case aO => exact (by (with_reducible repeat (first | apply Kd.R_alloc | apply Kd.R_drewN | apply Kd.R_drew)); exact HO_4.out)); (case aS => exact (below_size (by repeat (first | (with_reducible first | exact HB.out | apply below_alloc | apply pw_below_drewN | apply below_drew1 | refine below_set ?_ GE101.out) | exact HB.out)))); (case aL => have := LMc10.out; omega); intro v107 w13 ho hb hg hat; rw [← Ny106.out] at ho; have n0_ := Aside0.mk (blk_grown (g := gb101) (o := .cells #[.int .i32 97, .int .i32 98, .int .i32 99, .int .i32 120, .int .i32 121, .int .i32 233, .int .i32 8364, .int .i32 128512] 85 (0, 0)) (by (with_reducible repeat (first | refine blk_drewN ?_ _ | refine blk_drew ?_ | refine blk_alloc ?_ _)); exact BK101.out) hg (Kd.R_ne HO_4.out BK101.out (by decide))); have n1_ := Aside0.mk (hb); have n2_ := Aside0.mk (ho); clear BK101; clear HB; clear HO_4; have BK101 := n0_; have HB := n1_; have HO108 := n2_; clear n0_ n1_ n2_; clear ho hb hg hat))
            go_roundg k1
            case measure => have := HK1.out; omega
            case rel => exact ⟨(y106), (wrap64 (x5_1 + 1)), (by first | rfl | (simp; done) | (simp [*]; done)), H', ⟨by have := HK1.out; omega⟩, ⟨by (with_reducible repeat (first | apply Kd.R_alloc | apply Kd.R_drewN | apply Kd.R_drew)); exact HO108.out⟩, ⟨by (with_reducible repeat (first | refine blk_drewN ?_ _ | refine blk_drew ?_ | refine blk_alloc ?_ _)); exact BK101.out⟩, ⟨by repeat (first | (with_reducible first | exact HB.out | apply below_alloc | apply pw_below_drewN | apply below_drew1 | refine below_set ?_ GE101.out) | exact HB.out)⟩⟩
          · rw [if_neg c10] at H
            exact absurd H (by simp)
        · rw [if_neg c7] at H
          exact absurd H (by simp)
      · rw [if_neg c6] at H
        have c6b0 : decide (x5_1 < (a0.size : Int)) = false := decide_eq_false c6
        clear c6
        replace H := Option.bind_eq_some_iff.mp H
        obtain ⟨t109, A140, H⟩ := H
        replace H : (some t109) = some r := H
        have A14 := Aside0.mk A140
        clear A140
        obtain rfl := Option.some.inj H
        obtain ⟨Ao15, co15, eo15⟩ := Kd.R_slice HO_4.out
        subst eo15
        go_wp2_with (first | ((with_reducible refine gate_callee (f := 63) rfl ?_); refine goesL_ (some 24) rfl rfl Tryd.func63 (by kernel_rfl) rfl #[.slice Ao15 x4_1.length co15] rfl (by (try simp only [List.map_toArray, List.map_cons, List.map_nil]); first | done | rfl | (simp only [List.length_drop, List.length_take]; rfl)) ?_; (with_reducible refine (epitomeref01_Of.calls k1 _ _ x4_1 t109 _ ?side1 ?side2 A14.out).mono ?_); (case side1 => repeat (first | exact (Kd.R_reads' HO_4.out).2.2 | (with_reducible refine Kd.C_alloc ?_ _) | (with_reducible refine Kd.C_drewN ?_ _) | (with_reducible refine Kd.C_drew ?_))); (case side2 => exact (Kd.R_reads' HO_4.out).2.1); rintro e w16 ⟨rfl, hb⟩; refine ⟨_, rfl, ?_⟩; have n0_ := Aside0.mk (Kd.R_below (by (with_reducible repeat (first | apply Kd.R_alloc | apply Kd.R_drewN | apply Kd.R_drew)); exact HO_4.out) hb); have n1_ := Aside0.mk (blk_below (g := gb101) (o := .cells #[.int .i32 97, .int .i32 98, .int .i32 99, .int .i32 120, .int .i32 121, .int .i32 233, .int .i32 8364, .int .i32 128512] 85 (0, 0)) (by (with_reducible repeat (first | refine blk_drewN ?_ _ | refine blk_drew ?_ | refine blk_alloc ?_ _)); exact BK101.out) hb); have n2_ := Aside0.mk (below_step (by repeat (first | (with_reducible first | exact HB.out | apply below_alloc | apply pw_below_drewN | apply below_drew1 | refine below_set ?_ GE101.out) | exact HB.out)) hb); clear HO_4; clear BK101; clear HB; have HO_4 := n0_; have BK101 := n1_; have HB := n2_; clear n0_ n1_ n2_; (try clear hb); (try clear hb2); (try clear hk); (try clear hi)))
        go_ret
        exact ⟨by first | rfl | (simp [errW_none, errW_some] <;> rfl) | (simp [*, errW_none, errW_some] <;> rfl), by repeat (first | (with_reducible first | exact HB.out | apply below_alloc | apply pw_below_drewN | apply below_drew1 | refine below_set ?_ GE101.out) | exact HB.out)⟩
end Go.Proofs.YtphbemkdhneklaaDoor.F
end
section
namespace Go.Proofs.YtphbemkdhneklaaDoor.F
open Go.RowKit Go.Proofs.YtphbemkdhneklaaDoorW.PrintWords Go.Proofs.YtphbemkdhneklaaDoorW.PrintLast Go.Proofs.YtphbemkdhneklaaDoorW.PrintMore
attribute [local go_sem] max2_int min2_int max_two min_two max_three min_three max_four min_four cell_setCell_isSome
set_option linter.unusedVariables false
set_option linter.unusedSimpArgs false
mutual
def epitomeref04_Fit.l0 : Nat → List (S51) → Int → List (S51) → Int → Option ((List (S51)))
  | 0, _, _, _, _ => none
  | k + 1, x0, x1, x5, x6 => if x6 < (x0.length : Int) then (epitomeref04_Fit.j1 k x0 x1 x5 x6 (decide (x6 < 12))) else (epitomeref04_Fit.j1 k x0 x1 x5 x6 false)
def epitomeref04_Fit.j1 : Nat → List (S51) → Int → List (S51) → Int → Bool → Option ((List (S51)))
  | 0, _, _, _, _, _ => none
  | k + 1, x0, x1, x5, x6, x16 => if x16 = true then (if 0 ≤ x6 then (if x6 < (x0.length : Int) then (if (wrap64 (1 + (Int.tmod (wrap64 ((Int.tmod ((rd_T51 x0 x6).f0) 3) + 3)) 3))) = 2 then (if 0 ≤ (mn (((rd_T51 x0 x6).f2).size : Int) 6) then (if (mn (((rd_T51 x0 x6).f2).size : Int) 6) ≤ (((rd_T51 x0 x6).f2).size : Int) then ((epitomeref01_Fit.f k (((rd_T51 x0 x6).f2).extract 0 ((mn (((rd_T51 x0 x6).f2).size : Int) 6) : Int).toNat)).bind fun t108 => (if x5.length < 4398046511104 then (epitomeref04_Fit.l0 k x0 x1 (x5 ++ [(⟨wrap64 (1 + (Int.tmod (wrap64 ((Int.tmod ((rd_T51 x0 x6).f0) 3) + 3)) 3)), 0, t108⟩ : S51)]) (wrap64 (x6 + 1))) else (none))) else (none)) else (none)) else (if x5.length < 4398046511104 then (epitomeref04_Fit.l0 k x0 (wrap64 (x1 - (mn (Int.tmod (wrap64 ((Int.tmod ((rd_T51 x0 x6).f1) 7) + 7)) 7) x1))) (x5 ++ [(⟨wrap64 (1 + (Int.tmod (wrap64 ((Int.tmod ((rd_T51 x0 x6).f0) 3) + 3)) 3)), mn (Int.tmod (wrap64 ((Int.tmod ((rd_T51 x0 x6).f1) 7) + 7)) 7) x1, (⟨#[]⟩ : ByteArray)⟩ : S51)]) (wrap64 (x6 + 1))) else (none))) else (none)) else (none)) else (if x1 > 0 then (if x5.length < 4398046511104 then (some (x5 ++ [(⟨1, x1, (⟨#[]⟩ : ByteArray)⟩ : S51)])) else (none)) else (some x5))
end
def epitomeref04_Fit.f (k : Nat) (l0 : List (S51)) (a1 : Int) : Option ((List (S51))) := epitomeref04_Fit.l0 k l0 a1 (([] : List (S51))) 0
theorem epitomeref04_Fit.mono_l : ∀ k, (∀ y0 y1 y2 y3, LeO (epitomeref04_Fit.l0 k y0 y1 y2 y3) (epitomeref04_Fit.l0 (k + 1) y0 y1 y2 y3)) ∧ (∀ y0 y1 y2 y3 y4, LeO (epitomeref04_Fit.j1 k y0 y1 y2 y3 y4) (epitomeref04_Fit.j1 (k + 1) y0 y1 y2 y3 y4))
  | 0 => ⟨fun _ _ _ _ r h => by simp [epitomeref04_Fit.l0] at h, fun _ _ _ _ _ r h => by simp [epitomeref04_Fit.j1] at h⟩
  | k + 1 => by
    obtain ⟨ih0, ih1⟩ := epitomeref04_Fit.mono_l k
    refine ⟨?_, ?_⟩
    · intro y0 y1 y2 y3
      unfold epitomeref04_Fit.l0
      repeat' first
      | (with_reducible exact ih0 _ _ _ _)
      | (with_reducible exact ih1 _ _ _ _ _)
      | (with_reducible exact epitomeref01_Fit.mono _ _)
      | (with_reducible exact LeO.refl _)
      | (with_reducible exact LeO.none _)
      | (with_reducible refine LeO.ite ?_ ?_)
      | (with_reducible refine LeO.bind ?_ (fun _ => ?_))
      | exact ih0 _ _ _ _
      | exact ih1 _ _ _ _ _
      | exact epitomeref01_Fit.mono _ _
      | exact LeO.none _
      | refine LeO.ite ?_ ?_
      | refine LeO.bind ?_ (fun _ => ?_)
    · intro y0 y1 y2 y3 y4
      unfold epitomeref04_Fit.j1
      repeat' first
      | (with_reducible exact ih0 _ _ _ _)
      | (with_reducible exact ih1 _ _ _ _ _)
      | (with_reducible exact epitomeref01_Fit.mono _ _)
      | (with_reducible exact LeO.refl _)
      | (with_reducible exact LeO.none _)
      | (with_reducible refine LeO.ite ?_ ?_)
      | (with_reducible refine LeO.bind ?_ (fun _ => ?_))
      | exact ih0 _ _ _ _
      | exact ih1 _ _ _ _ _
      | exact epitomeref01_Fit.mono _ _
      | exact LeO.none _
      | refine LeO.ite ?_ ?_
      | refine LeO.bind ?_ (fun _ => ?_)
theorem epitomeref04_Fit.mono : ∀ a0 a1 k, LeO (epitomeref04_Fit.f k a0 a1) (epitomeref04_Fit.f (k + 1) a0 a1) := by
  intro a0 a1 k
  obtain ⟨ih0, ih1⟩ := epitomeref04_Fit.mono_l k
  unfold epitomeref04_Fit.f
  repeat' first
      | (with_reducible exact ih0 _ _ _ _)
      | (with_reducible exact ih1 _ _ _ _ _)
      | (with_reducible exact epitomeref01_Fit.mono _ _)
      | (with_reducible exact LeO.refl _)
      | (with_reducible exact LeO.none _)
      | (with_reducible refine LeO.ite ?_ ?_)
      | (with_reducible refine LeO.bind ?_ (fun _ => ?_))
      | exact ih0 _ _ _ _
      | exact ih1 _ _ _ _ _
      | exact epitomeref01_Fit.mono _ _
      | exact LeO.none _
      | refine LeO.ite ?_ ?_
      | refine LeO.bind ?_ (fun _ => ?_)
def epitomeref04_Fit.T7 : Bool × List (List Nat × List Nat) := (true, [([], []), ([], []), ([0, 1], [0, 1]), ([2], [2]), ([3], [3]), ([], []), ([], []), ([5, 6], [5, 6]), ([7], [7]), ([8], [8]), ([9], [9]), ([10], [10]), ([4, 11], [4, 11]), ([12], [12]), ([0, 1, 2, 3, 4, 5, 6, 7, 8, 9, 10, 11, 12, 13], []), ([14, 13, 13, 0, 1, 2, 3, 4, 5, 6, 7, 8, 9, 10, 11, 12, 13], [13, 14])])
def epitomeref04_Fit.B7 : List Nat := [0, 0, 3, 7, 15, 0, 0, 96, 224, 480, 992, 2016, 4095, 8191, 16383, 32767]
theorem epitomeref04_Fit.tab7 : rtab .any (opsOf Tryd.f16 7) = epitomeref04_Fit.T7 := by kernel_rfl
theorem epitomeref04_Fit.bits7 : waitsOk epitomeref04_Fit.T7.2 epitomeref04_Fit.B7 = true := by kernel_rfl
set_option maxHeartbeats 8000000 in
set_option maxRecDepth 100000 in
theorem epitomeref04_Fit.calls (k : Nat) (A0 : Option Addr) (c0 : Nat) (l0 : List (S51)) (a1 : Int) (r : List (S51)) (w : World) (hr0 : Kd.C k51 w A0 l0.length l0) (hc0 : l0.length ≤ c0) (h : epitomeref04_Fit.f k l0 a1 = some r) :
    Calls Tryd.prog 16 #[.slice A0 l0.length c0, .int .i64 a1] w fun e w' => ∃ v0_ : Value, e = .returned (v0_) ∧ Kd.R k51 51 w' w.heap.size (fun _ => True) v0_ r ∧ Below w.heap.size w w' := by
  have hu51 := Tryd.underlying51
  have HR0 := Aside0.mk hr0
  have HC0 := Aside0.mk hc0
  clear hr0 hc0
  have HB := Aside0.mk (Below.refl w.heap.size w)
  have H : (epitomeref04_Fit.l0 k l0 a1 (([] : List (S51))) 0) = some r := h
  clear h
  obtain ⟨y101, hy101⟩ : ∃ y_ : List (S51), y_ = (([] : List (S51))) := ⟨_, rfl⟩
  replace H : (epitomeref04_Fit.l0 k l0 a1 y101 0) = some r := by first | (rw [hy101]; with_reducible exact H) | (have H2_ := (Option.bind_some _ _).symm.trans H; rw [hy101]; with_reducible exact H2_) | (have H2_ := (Option.bind_some _ _).symm.trans H; with_reducible exact H2_) | with_reducible exact H | (rw [hy101]; exact H) | exact H
  have Ny101 := Aside0.mk hy101
  clear hy101
  have H' := Aside0.mk H
  clear H
  go_enter Tryd.func16, Tryd.ntmps16
  go_wp2_with (first | ((with_reducible refine gate_dst (N := 8) rfl ?_); refine Kd.R_lit k51 _ 51 ?hg (N := 8) ?hd (xs := ([] : List (S51))) (inner := []) (ok := fun _ => True) (okp := fun _ => True) ?hr ?hp (fun _ hk => hk) trivial (Below.refl _ _) (Nat.le_refl _) (by simp) ?_; (case hd => rfl); (case hg => rfl); (case hr => first | (go_simp; done) | (go_simp; rfl)); (case hp => exact (Reps.none _ _)); intro v102 w3 ho4 hb hg_ hnew_; clear hg_ hnew_; (first | rw [← Ny101.out] at ho4 | (simp only [Int.reduceToNat] at ho4; rw [← Ny101.out] at ho4)); have n0_ := Aside0.mk (Kd.R_lower ho4 (below_size (by repeat (first | (with_reducible first | exact HB.out | apply below_alloc | apply pw_below_drewN | apply below_drew1) | exact HB.out)))); have n1_ := Aside0.mk (below_step (by repeat (first | (with_reducible first | exact HB.out | apply below_alloc | apply pw_below_drewN | apply below_drew1) | exact HB.out)) hb); clear HB; have HO103 := n0_; have HB := n1_; clear n0_ n1_; clear hb ho4))
  go_loopg [1, 5, 6] k (fun kq v1 v5 v6 w' => ∃ (x1_1 : Int) (x5_1 : List (S51)) (x6_1 : Int), v1 = .int .i64 x1_1 ∧ v6 = .int .i64 x6_1 ∧ Aside0 (epitomeref04_Fit.l0 kq l0 x1_1 x5_1 x6_1 = some r) ∧ Aside0 (kq ≤ k) ∧ Aside0 (Kd.R k51 51 w' w.heap.size (fun _ => True) v5 x5_1) ∧ Aside0 (Below w.heap.size w w'))
  case atStart => exact ⟨(a1), (y101), (0), (by first | rfl | (simp; done) | (simp [*]; done)), (by first | rfl | (simp; done) | (simp [*]; done)), H', ⟨Nat.le_refl _⟩, ⟨by (with_reducible repeat (first | apply Kd.R_alloc | apply Kd.R_drewN | apply Kd.R_drew)); exact HO103.out⟩, ⟨by repeat (first | (with_reducible first | exact HB.out | apply below_alloc | apply pw_below_drewN | apply below_drew1) | exact HB.out)⟩⟩
  case round =>
    clear H'
    try clear c1
    try clear p2
    obtain ⟨x1_1, x5_1, x6_1, rfl, rfl, HA, HK1, HO_5, HB⟩ := hrel
    cases gk with
    | zero => exact absurd HA.out (by simp [epitomeref04_Fit.l0])
    | succ k1 =>
      have H := HA.out
      clear HA
      simp only [epitomeref04_Fit.l0] at H
      have HC5 := Aside0.mk H
      clear H
      go_upto_region 3 with (fail)
      go_cut [16] (fun v16 wc => ∃ (kq : Nat) (x16_4 : Bool), v16 = .bool x16_4 ∧ Aside0 (epitomeref04_Fit.j1 kq l0 x1_1 x5_1 x6_1 x16_4 = some r) ∧ Aside0 (kq ≤ k1) ∧ Aside0 (Kd.R k51 51 wc w.heap.size (fun _ => True) u5 x5_1) ∧ Aside0 (Below w.heap.size w wc))
      case first =>
        have H := HC5.out
        clear HC5
        by_cases c6 : x6_1 < (l0.length : Int)
        · rw [if_pos c6] at H
          have c6b0 : decide (x6_1 < (l0.length : Int)) = true := decide_eq_true c6
          clear c6
          (first | rw [c6b0] | (simp only [i64_w, i32_w]; rw [c6b0]) | skip)
          have H' := Aside0.mk H
          clear H
          go_wp2
          go_meet
          case rel => exact ⟨_, (decide (x6_1 < 12)), (by first | rfl | (simp; done) | (simp [*]; done)), H', ⟨by have := HK1.out; first | omega | exact Nat.le_refl _⟩, ⟨by (with_reducible repeat (first | apply Kd.R_alloc | apply Kd.R_drewN | apply Kd.R_drew)); exact HO_5.out⟩, ⟨by repeat (first | (with_reducible first | exact HB.out | apply below_alloc | apply pw_below_drewN | apply below_drew1) | exact HB.out)⟩⟩
        · rw [if_neg c6] at H
          have c6b0 : decide (x6_1 < (l0.length : Int)) = false := decide_eq_false c6
          clear c6
          (first | rw [c6b0] | (simp only [i64_w, i32_w]; rw [c6b0]) | skip)
          have H' := Aside0.mk H
          clear H
          go_wp2
          go_meet
          case rel => exact ⟨_, (false), (by first | rfl | (simp; done) | (simp [*]; done)), H', ⟨by have := HK1.out; first | omega | exact Nat.le_refl _⟩, ⟨by (with_reducible repeat (first | apply Kd.R_alloc | apply Kd.R_drewN | apply Kd.R_drew)); exact HO_5.out⟩, ⟨by repeat (first | (with_reducible first | exact HB.out | apply below_alloc | apply pw_below_drewN | apply below_drew1) | exact HB.out)⟩⟩
      case rest =>
        clear HC5
        try clear c1
        try clear p2
        try clear c6
        try clear c6b0
        try clear p2
        obtain ⟨kq, x16_4, rfl, HA, HJ4, HO_5, HB⟩ := hcut
        cases kq with
        | zero => exact absurd HA.out (by simp [epitomeref04_Fit.j1])
        | succ kj4 =>
          have H := HA.out
          clear HA
          simp only [epitomeref04_Fit.j1] at H
          by_cases c7 : x16_4 = true
          · subst c7
            have H1 : (if 0 ≤ x6_1 then (if x6_1 < (l0.length : Int) then (if (wrap64 (1 + (Int.tmod (wrap64 ((Int.tmod ((rd_T51 l0 x6_1).f0) 3) + 3)) 3))) = 2 then (if 0 ≤ (mn (((rd_T51 l0 x6_1).f2).size : Int) 6) then (if (mn (((rd_T51 l0 x6_1).f2).size : Int) 6) ≤ (((rd_T51 l0 x6_1).f2).size : Int) then ((epitomeref01_Fit.f kj4 (((rd_T51 l0 x6_1).f2).extract 0 ((mn (((rd_T51 l0 x6_1).f2).size : Int) 6) : Int).toNat)).bind fun t108 => (if x5_1.length < 4398046511104 then (epitomeref04_Fit.l0 kj4 l0 x1_1 (x5_1 ++ [(⟨wrap64 (1 + (Int.tmod (wrap64 ((Int.tmod ((rd_T51 l0 x6_1).f0) 3) + 3)) 3)), 0, t108⟩ : S51)]) (wrap64 (x6_1 + 1))) else (none))) else (none)) else (none)) else (if x5_1.length < 4398046511104 then (epitomeref04_Fit.l0 kj4 l0 (wrap64 (x1_1 - (mn (Int.tmod (wrap64 ((Int.tmod ((rd_T51 l0 x6_1).f1) 7) + 7)) 7) x1_1))) (x5_1 ++ [(⟨wrap64 (1 + (Int.tmod (wrap64 ((Int.tmod ((rd_T51 l0 x6_1).f0) 3) + 3)) 3)), mn (Int.tmod (wrap64 ((Int.tmod ((rd_T51 l0 x6_1).f1) 7) + 7)) 7) x1_1, (⟨#[]⟩ : ByteArray)⟩ : S51)]) (wrap64 (x6_1 + 1))) else (none))) else (none)) else (none)) = some r := by rw [if_pos rfl] at H; exact H
            clear H
            have H := H1
            clear H1
            by_cases c8 : 0 ≤ x6_1
            · rw [if_pos c8] at H
              have c8b0 : decide (0 ≤ x6_1) = true := decide_eq_true c8
              clear c8
              by_cases c9 : x6_1 < (l0.length : Int)
              · rw [if_pos c9] at H
                have c9b0 : decide (x6_1 < (l0.length : Int)) = true := decide_eq_true c9
                clear c9
                by_cases c10 : (wrap64 (1 + (Int.tmod (wrap64 ((Int.tmod ((rd_T51 l0 x6_1).f0) 3) + 3)) 3))) = 2
                · rw [if_pos c10] at H
                  have c10b0 : ((wrap64 (1 + (Int.tmod (wrap64 ((Int.tmod ((rd_T51 l0 x6_1).f0) 3) + 3)) 3))) == 2) = true := beq_iff_eq.mpr c10
                  have c10b1 : ((wrap64 (1 + (Int.tmod (wrap64 ((Int.tmod ((rd_T51 l0 x6_1).f0) 3) + 3)) 3))) != 2) = false := bne_eq_false_iff_eq.mpr c10
                  clear c10
                  obtain ⟨ji11, hji11⟩ : ∃ j_ : Int, (mn (((rd_T51 l0 x6_1).f2).size : Int) 6) = j_ := ⟨_, rfl⟩
                  replace H : (if 0 ≤ (ji11) then (if (ji11) ≤ (((rd_T51 l0 x6_1).f2).size : Int) then ((epitomeref01_Fit.f kj4 (((rd_T51 l0 x6_1).f2).extract 0 ((ji11) : Int).toNat)).bind fun t108 => (if x5_1.length < 4398046511104 then (epitomeref04_Fit.l0 kj4 l0 x1_1 (x5_1 ++ [(⟨wrap64 (1 + (Int.tmod (wrap64 ((Int.tmod ((rd_T51 l0 x6_1).f0) 3) + 3)) 3)), 0, t108⟩ : S51)]) (wrap64 (x6_1 + 1))) else (none))) else (none)) else (none)) = some r := by first | (rw [hji11] at H; exact H) | (simp only [hji11] at H ⊢; exact H)
                  have hji11_ : (if 6 < (((rd_T51 l0 x6_1).f2).size : Int) then 6 else (((rd_T51 l0 x6_1).f2).size : Int)) = ji11 := hji11
                  by_cases c12 : 0 ≤ (ji11)
                  · rw [if_pos c12] at H
                    have c12b0 := eq_true c12
                    have c12b1 : decide (0 ≤ (ji11)) = true := decide_eq_true c12
                    clear c12
                    by_cases c13 : (ji11) ≤ (((rd_T51 l0 x6_1).f2).size : Int)
                    · rw [if_pos c13] at H
                      have c13b0 := eq_true c13
                      have c13b1 : decide ((ji11) ≤ (((rd_T51 l0 x6_1).f2).size : Int)) = true := decide_eq_true c13
                      clear c13
                      replace H := Option.bind_eq_some_iff.mp H
                      obtain ⟨t108, A140, H⟩ := H
                      replace H : (if x5_1.length < 4398046511104 then (epitomeref04_Fit.l0 kj4 l0 x1_1 (x5_1 ++ [(⟨wrap64 (1 + (Int.tmod (wrap64 ((Int.tmod ((rd_T51 l0 x6_1).f0) 3) + 3)) 3)), 0, t108⟩ : S51)]) (wrap64 (x6_1 + 1))) else (none)) = some r := H
                      have A14 := Aside0.mk A140
                      clear A140
                      by_cases c15 : x5_1.length < 4398046511104
                      · rw [if_pos c15] at H
                        have LMc15 := Aside0.mk c15
                        clear c15
                        obtain ⟨y109, hy109⟩ : ∃ y_ : List (S51), y_ = (x5_1 ++ [(⟨wrap64 (1 + (Int.tmod (wrap64 ((Int.tmod ((rd_T51 l0 x6_1).f0) 3) + 3)) 3)), 0, t108⟩ : S51)]) := ⟨_, rfl⟩
                        replace H : (epitomeref04_Fit.l0 kj4 l0 x1_1 y109 (wrap64 (x6_1 + 1))) = some r := by first | (rw [hy109]; with_reducible exact H) | (have H2_ := (Option.bind_some _ _).symm.trans H; rw [hy109]; with_reducible exact H2_) | (have H2_ := (Option.bind_some _ _).symm.trans H; with_reducible exact H2_) | with_reducible exact H | (rw [hy109]; exact H) | exact H
                        have Ny109 := Aside0.mk hy109
                        clear hy109
                        have H' := Aside0.mk H
                        clear H
                        have p104 : 0 ≤ (x6_1 : Int) := of_decide_eq_true (by first | (with_reducible assumption) | assumption)
                        have q104 : x6_1 < (l0.length : Int) := of_decide_eq_true (by first | (with_reducible assumption) | assumption)
                        obtain ⟨ad104, e104, hx104_0, hx104_1, hx104_2⟩ := at_T51 HR0.out x6_1 p104 q104
                        cases e104
                        replace hx104_0 := (HB.out.cell (World.block_lt_of_cell? w _ hx104_0)).trans hx104_0
                        replace hx104_1 := (HB.out.cell (World.block_lt_of_cell? w _ hx104_1)).trans hx104_1
                        replace hx104_2 := (HB.out.cell (World.block_lt_of_cell? w _ hx104_2)).trans hx104_2
                        replace p104 := eq_true p104
                        replace q104 := eq_true q104
                        try go_wp2_with (first | ((with_reducible refine gate_dst (N := 7) rfl ?_); refine box_event ?hg (N := 7) ?hd (cs := #[.int .i64 0, .int .i64 0, .string (⟨#[]⟩ : ByteArray)]) (t := 51) ?hr ?_; (case hd => rfl); (case hg => rfl); (case hr => first | (go_simp; done) | (go_simp; rfl)); intro gb105 hg w16 hbox hb; have n0_ := Aside0.mk (Kd.R_below (Kd.R_elderB (by (with_reducible repeat (first | apply Kd.R_alloc | apply Kd.R_drewN | apply Kd.R_drew)); exact HO_5.out) gb105 (Nat.le_of_eq hg.symm)) hb); have n1_ := Aside0.mk (below_step (by repeat (first | (with_reducible first | exact HB.out | apply below_alloc | apply pw_below_drewN | apply below_drew1) | exact HB.out)) hb); have n2_ := Aside0.mk (hbox); have n3_ := Aside0.mk ((by rw [hg]; exact (below_size (by repeat (first | (with_reducible first | exact HB.out | apply below_alloc | apply pw_below_drewN | apply below_drew1) | exact HB.out))) : w.heap.size ≤ gb105)); have n4_ := Aside0.mk ((by rw [hg]; exact (below_size (by repeat (first | (with_reducible first | exact HB.out | apply below_alloc | apply pw_below_drewN | apply below_drew1) | exact HB.out))) : w.heap.size ≤ gb105)); clear HO_5; clear HB; have HO_5 := n0_; have HB := n1_; have BK105 := n2_; have GW105 := n3_; have GE105 := n4_; clear n0_ n1_ n2_ n3_ n4_; clear hb hbox hg; have hcz17_0 : w16.cell? ⟨gb105, 0, none⟩ = some (.int .i64 0) := (blk_cell BK105.out 0).trans rfl; have hcz17_1 : w16.cell? ⟨gb105, 1, none⟩ = some (.int .i64 0) := (blk_cell BK105.out 1).trans rfl; have hcz17_2 : w16.cell? ⟨gb105, 2, none⟩ = some (.string (⟨#[]⟩ : ByteArray)) := (blk_cell BK105.out 2).trans rfl; have hfz17_0 := blk_frozen BK105.out 0; have hfz17_1 := blk_frozen BK105.out 1; have hfz17_2 := blk_frozen BK105.out 2))
                        have n0_ : Aside0 (Kd.R k51 51 (((w16.setCell ⟨gb105, 0, none⟩ (.int .i64 (wrap64 (1 + (Int.tmod (wrap64 ((Int.tmod ((rd_T51 l0 x6_1).f0) 3) + 3)) 3))))).setCell ⟨gb105, 1, none⟩ (.int .i64 0)).setCell ⟨gb105, 2, none⟩ (.string (⟨#[]⟩ : ByteArray))) w.heap.size (fun k_ => k_ ≠ gb105) u5 x5_1) := ⟨by (with_reducible repeat (first | apply Kd.R_alloc | apply Kd.R_drewN | apply Kd.R_drew)); exact Kd.R_mono (Kd.R_far (p := ⟨gb105, 2, none⟩) (Kd.R_far (p := ⟨gb105, 1, none⟩) (Kd.R_far (p := ⟨gb105, 0, none⟩) (Kd.R_mono HO_5.out (fun k_ hk => (⟨hk, hk.2⟩ : _ ∧ k_ ≠ gb105))) (fun _ hk => hk.2) (.int .i64 (wrap64 (1 + (Int.tmod (wrap64 ((Int.tmod ((rd_T51 l0 x6_1).f0) 3) + 3)) 3))))) (fun _ hk => hk.2) (.int .i64 0)) (fun _ hk => hk.2) (.string (⟨#[]⟩ : ByteArray))) (fun _ hk => hk.1.2)⟩
                        have n1_ : Aside0 ((((w16.setCell ⟨gb105, 0, none⟩ (.int .i64 (wrap64 (1 + (Int.tmod (wrap64 ((Int.tmod ((rd_T51 l0 x6_1).f0) 3) + 3)) 3))))).setCell ⟨gb105, 1, none⟩ (.int .i64 0)).setCell ⟨gb105, 2, none⟩ (.string (⟨#[]⟩ : ByteArray))).heap[gb105]? = some (.cells #[.int .i64 (wrap64 (1 + (Int.tmod (wrap64 ((Int.tmod ((rd_T51 l0 x6_1).f0) 3) + 3)) 3))), .int .i64 0, .string (⟨#[]⟩ : ByteArray)] 51 (0, 0))) := ⟨by (with_reducible repeat (first | refine blk_drewN ?_ _ | refine blk_drew ?_ | refine blk_alloc ?_ _)); refine blk_put (cs := #[.int .i64 (wrap64 (1 + (Int.tmod (wrap64 ((Int.tmod ((rd_T51 l0 x6_1).f0) 3) + 3)) 3))), .int .i64 0, .string (⟨#[]⟩ : ByteArray)]) ?_ 2 _ rfl; (with_reducible repeat (first | refine blk_drewN ?_ _ | refine blk_drew ?_ | refine blk_alloc ?_ _)); refine blk_put (cs := #[.int .i64 (wrap64 (1 + (Int.tmod (wrap64 ((Int.tmod ((rd_T51 l0 x6_1).f0) 3) + 3)) 3))), .int .i64 0, .string (⟨#[]⟩ : ByteArray)]) ?_ 1 _ rfl; (with_reducible repeat (first | refine blk_drewN ?_ _ | refine blk_drew ?_ | refine blk_alloc ?_ _)); refine blk_put (cs := #[.int .i64 0, .int .i64 0, .string (⟨#[]⟩ : ByteArray)]) ?_ 0 _ rfl; (with_reducible repeat (first | refine blk_drewN ?_ _ | refine blk_drew ?_ | refine blk_alloc ?_ _)); exact BK105.out⟩
                        have n2_ : Aside0 (Below w.heap.size w (((w16.setCell ⟨gb105, 0, none⟩ (.int .i64 (wrap64 (1 + (Int.tmod (wrap64 ((Int.tmod ((rd_T51 l0 x6_1).f0) 3) + 3)) 3))))).setCell ⟨gb105, 1, none⟩ (.int .i64 0)).setCell ⟨gb105, 2, none⟩ (.string (⟨#[]⟩ : ByteArray)))) := ⟨by repeat (first | (with_reducible first | exact HB.out | apply below_alloc | apply pw_below_drewN | apply below_drew1 | refine below_set ?_ GE105.out) | exact HB.out)⟩
                        (try clear HO_5)
                        (try clear BK105)
                        (try clear HB)
                        generalize (((w16.setCell ⟨gb105, 0, none⟩ (.int .i64 (wrap64 (1 + (Int.tmod (wrap64 ((Int.tmod ((rd_T51 l0 x6_1).f0) 3) + 3)) 3))))).setCell ⟨gb105, 1, none⟩ (.int .i64 0)).setCell ⟨gb105, 2, none⟩ (.string (⟨#[]⟩ : ByteArray))) = w18 at n0_ n1_ n2_ ⊢
                        have HO_5 := n0_
                        have BK105 := n1_
                        have HB := n2_
                        clear n0_ n1_ n2_
                        have n0_ := Aside0.mk (Kd.R_drew HO_5.out)
                        have n1_ := Aside0.mk (blk_drew BK105.out)
                        have n2_ := Aside0.mk (below_drew1 HB.out)
                        clear HO_5
                        clear BK105
                        clear HB
                        have HO_5 := n0_
                        have BK105 := n1_
                        have HB := n2_
                        clear n0_ n1_ n2_
                        have p106 : 0 ≤ (x6_1 : Int) := of_decide_eq_true (by first | (with_reducible assumption) | assumption)
                        have q106 : x6_1 < (l0.length : Int) := of_decide_eq_true (by first | (with_reducible assumption) | assumption)
                        obtain ⟨ad106, e106, hx106_0, hx106_1, hx106_2⟩ := at_T51 HR0.out x6_1 p106 q106
                        have hw106_2 := hx106_2
                        have hw106_1 := hx106_1
                        have hw106_0 := hx106_0
                        obtain rfl : ad104 = ad106 := (by injection e106)
                        replace hx106_0 := (HB.out.cell (World.block_lt_of_cell? w _ hx106_0)).trans hx106_0
                        replace hx106_1 := (HB.out.cell (World.block_lt_of_cell? w _ hx106_1)).trans hx106_1
                        replace hx106_2 := (HB.out.cell (World.block_lt_of_cell? w _ hx106_2)).trans hx106_2
                        replace p106 := eq_true p106
                        replace q106 := eq_true q106
                        have p107 : 0 ≤ (x6_1 : Int) := of_decide_eq_true (by first | (with_reducible assumption) | assumption)
                        have q107 : x6_1 < (l0.length : Int) := of_decide_eq_true (by first | (with_reducible assumption) | assumption)
                        obtain ⟨ad107, e107, hx107_0, hx107_1, hx107_2⟩ := at_T51 HR0.out x6_1 p107 q107
                        have hw107_2 := hx107_2
                        have hw107_1 := hx107_1
                        have hw107_0 := hx107_0
                        obtain rfl : ad104 = ad107 := (by injection e107)
                        replace hx107_0 := (HB.out.cell (World.block_lt_of_cell? w _ hx107_0)).trans hx107_0
                        replace hx107_1 := (HB.out.cell (World.block_lt_of_cell? w _ hx107_1)).trans hx107_1
                        replace hx107_2 := (HB.out.cell (World.block_lt_of_cell? w _ hx107_2)).trans hx107_2
                        replace p107 := eq_true p107
                        replace q107 := eq_true q107
                        refine start_ (n := 16) (S := fun w' => w'.cell? (ad104.add ((x6_1).toNat * 3)) = some (.int .i64 ((rd_T51 l0 x6_1).f0)) ∧ w'.cell? ⟨(ad104.add ((x6_1).toNat * 3)).block, (ad104.add ((x6_1).toNat * 3)).off + 1, none⟩ = some (.int .i64 ((rd_T51 l0 x6_1).f1)) ∧ w'.cell? ⟨(ad104.add ((x6_1).toNat * 3)).block, (ad104.add ((x6_1).toNat * 3)).off + 2, none⟩ = some (.string ((rd_T51 l0 x6_1).f2)) ∧ w'.cell? (ad104.add ((x6_1).toNat * 3)) = some (.int .i64 ((rd_T51 l0 x6_1).f0)) ∧ w'.cell? ⟨(ad104.add ((x6_1).toNat * 3)).block, (ad104.add ((x6_1).toNat * 3)).off + 1, none⟩ = some (.int .i64 ((rd_T51 l0 x6_1).f1)) ∧ w'.cell? ⟨(ad104.add ((x6_1).toNat * 3)).block, (ad104.add ((x6_1).toNat * 3)).off + 2, none⟩ = some (.string ((rd_T51 l0 x6_1).f2))) (ds := []) #[false, false, false, false, false, false, false, false, false, false, false, false, false, false, false, false] (by kernel_rfl) rfl rfl ⟨((HB.out.cell (World.block_lt_of_cell? w _ hw106_0)).trans hw106_0), ((HB.out.cell (World.block_lt_of_cell? w _ hw106_1)).trans hw106_1), ((HB.out.cell (World.block_lt_of_cell? w _ hw106_2)).trans hw106_2), ((HB.out.cell (World.block_lt_of_cell? w _ hw107_0)).trans hw107_0), ((HB.out.cell (World.block_lt_of_cell? w _ hw107_1)).trans hw107_1), ((HB.out.cell (World.block_lt_of_cell? w _ hw107_2)).trans hw107_2)⟩ (fun hHeld => ?_); refine with_tabW epitomeref04_Fit.tab7 epitomeref04_Fit.bits7 (fun HT_ HW_ => ?_)
                        generalize w18.drew = w19 at HO_5 BK105 HB hx106_0 hx106_1 hx106_2 hx107_0 hx107_1 hx107_2 hHeld ⊢
                        refine pure_ (i := 0) (N := some 32) (v := ?_) (a' := ?_) #[true, false, false, false, false, false, false, false, false, false, false, false, false, false, false, false] rfl rfl (any_of HT_.out (by kernel_rfl)) (fun _ _ _ h => h) (Or.inl ⟨by rfl, ?_⟩) ?_ ?_
                        rotate_left
                        · intro w'
                          go_simp
                          with_reducible rfl
                        rotate_left
                        · simp only [Act.put, List.setIfInBounds_toArray, List.set_cons_zero, List.set_cons_succ, i64_w, i32_w]
                          rfl
                        refine pure_ (i := 1) (N := some 33) (v := ?_) (a' := ?_) #[true, true, false, false, false, false, false, false, false, false, false, false, false, false, false, false] rfl rfl (any_of HT_.out (by kernel_rfl)) (fun _ _ _ h => h) (Or.inl ⟨by rfl, ?_⟩) ?_ ?_
                        rotate_left
                        · intro w'
                          go_simp
                          with_reducible rfl
                        rotate_left
                        · simp only [Act.put, List.setIfInBounds_toArray, List.set_cons_zero, List.set_cons_succ, i64_w, i32_w]
                          rfl
                        refine pure_ (i := 2) (N := some 34) (v := ?_) (a' := ?_) #[true, true, true, false, false, false, false, false, false, false, false, false, false, false, false, false] rfl rfl (any_of HT_.out (by kernel_rfl)) (fun _ _ _ h => h) (Or.inl ⟨by rfl, ?_⟩) ?_ ?_
                        rotate_left
                        · intro w'
                          go_simp
                          with_reducible rfl
                        rotate_left
                        · simp only [Act.put, List.setIfInBounds_toArray, List.set_cons_zero, List.set_cons_succ, i64_w, i32_w]
                          rfl
                        refine pure_ (i := 3) (N := some 35) (v := ?_) (a' := ?_) #[true, true, true, true, false, false, false, false, false, false, false, false, false, false, false, false] rfl rfl (any_of HT_.out (by kernel_rfl)) (fun _ _ _ h => h) (Or.inl ⟨by rfl, ?_⟩) ?_ ?_
                        rotate_left
                        · intro w'
                          go_simp
                          with_reducible rfl
                        rotate_left
                        · simp only [Act.put, List.setIfInBounds_toArray, List.set_cons_zero, List.set_cons_succ, i64_w, i32_w]
                          rfl
                        refine pure_ (i := 5) (N := some 37) (v := ?_) (a' := ?_) #[true, true, true, true, false, true, false, false, false, false, false, false, false, false, false, false] rfl rfl (any_of HT_.out (by kernel_rfl)) (fun _ _ _ h => h) (Or.inl ⟨by rfl, ?_⟩) ?_ ?_
                        rotate_left
                        · intro w'
                          go_simp
                          with_reducible rfl
                        rotate_left
                        · simp only [Act.put, List.setIfInBounds_toArray, List.set_cons_zero, List.set_cons_succ, i64_w, i32_w]
                          rfl
                        refine pure_ (i := 6) (N := some 38) (v := ?_) (a' := ?_) #[true, true, true, true, false, true, true, false, false, false, false, false, false, false, false, false] rfl rfl (any_of HT_.out (by kernel_rfl)) (fun _ _ _ h => h) (Or.inl ⟨by rfl, ?_⟩) ?_ ?_
                        rotate_left
                        · intro w'
                          go_simp
                          with_reducible rfl
                        rotate_left
                        · simp only [Act.put, List.setIfInBounds_toArray, List.set_cons_zero, List.set_cons_succ, i64_w, i32_w]
                          rfl
                        refine pure_ (i := 7) (N := some 39) (v := ?_) (a' := ?_) #[true, true, true, true, false, true, true, true, false, false, false, false, false, false, false, false] rfl rfl (any_of HT_.out (by kernel_rfl)) (fun _ _ _ h => h) (Or.inl ⟨by rfl, ?_⟩) ?_ ?_
                        rotate_left
                        · intro w'
                          go_simp
                          with_reducible rfl
                        rotate_left
                        · simp only [Act.put, List.setIfInBounds_toArray, List.set_cons_zero, List.set_cons_succ, i64_w, i32_w]
                          rfl
                        refine pure_ (i := 8) (N := some 40) (v := ?_) (a' := ?_) #[true, true, true, true, false, true, true, true, true, false, false, false, false, false, false, false] rfl rfl (any_of HT_.out (by kernel_rfl)) (fun _ _ _ h => h) (Or.inl ⟨by rfl, ?_⟩) ?_ ?_
                        rotate_left
                        · intro w'
                          go_simp
                          with_reducible rfl
                        rotate_left
                        · simp only [Act.put, List.setIfInBounds_toArray, List.set_cons_zero, List.set_cons_succ, i64_w, i32_w]
                          rfl
                        refine take_ (i := 4) (N := some 36) (v := ?_) (a' := ?_) #[true, true, true, true, true, true, true, true, true, false, false, false, false, false, false, false] rfl rfl (take_ofW HT_.out HW_.out (by kernel_rfl)) (fun _ _ _ h => h) (Or.inl ⟨by rfl, ?_⟩) hHeld ?_ ?_
                        rotate_left
                        · rintro w' ⟨s0, s1, s2, s3, s4, s5⟩
                          go_simp
                          with_reducible rfl
                        rotate_left
                        · simp only [Act.put, List.setIfInBounds_toArray, List.set_cons_zero, List.set_cons_succ, i64_w, i32_w]
                          rfl
                        refine take_ (i := 9) (N := some 41) (v := ?_) (a' := ?_) #[true, true, true, true, true, true, true, true, true, true, false, false, false, false, false, false] rfl rfl (take_ofW HT_.out HW_.out (by kernel_rfl)) (fun _ _ _ h => h) (Or.inl ⟨by rfl, ?_⟩) hHeld ?_ ?_
                        rotate_left
                        · rintro w' ⟨s0, s1, s2, s3, s4, s5⟩
                          go_simp
                          with_reducible rfl
                        rotate_left
                        · simp only [Act.put, List.setIfInBounds_toArray, List.set_cons_zero, List.set_cons_succ, i64_w, i32_w]
                          rfl
                        refine pure_ (i := 10) (N := some 42) (v := ?_) (a' := ?_) #[true, true, true, true, true, true, true, true, true, true, true, false, false, false, false, false] rfl rfl (any_of HT_.out (by kernel_rfl)) (fun _ _ _ h => h) (Or.inl ⟨by rfl, ?_⟩) ?_ ?_
                        rotate_left
                        · intro w'
                          go_simp
                          with_reducible rfl
                        rotate_left
                        · simp only [Act.put, List.setIfInBounds_toArray, List.set_cons_zero, List.set_cons_succ, i64_w, i32_w]
                          rfl
                        refine pure_ (i := 11) (N := some 43) (v := ?_) (a' := ?_) #[true, true, true, true, true, true, true, true, true, true, true, true, false, false, false, false] rfl rfl (any_of HT_.out (by kernel_rfl)) (fun _ _ _ h => h) (Or.inl ⟨by rfl, ?_⟩) ?_ ?_
                        rotate_left
                        · intro w'
                          go_simp
                          with_reducible rfl
                        rotate_left
                        · simp only [Act.put, List.setIfInBounds_toArray, List.set_cons_zero, List.set_cons_succ, i64_w, i32_w]
                          rfl
                        refine pure_ (i := 12) (N := some 44) (v := ?_) (a' := ?_) #[true, true, true, true, true, true, true, true, true, true, true, true, true, false, false, false] rfl rfl (any_of HT_.out (by kernel_rfl)) (fun _ _ _ h => h) (Or.inl ⟨by rfl, ?_⟩) ?_ ?_
                        rotate_left
                        · intro w'
                          go_simp
                          with_reducible rfl
                        rotate_left
                        · simp only [Act.put, List.setIfInBounds_toArray, List.set_cons_zero, List.set_cons_succ, i64_w, i32_w]
                          rfl
                        refine one_ (i := 13) (N := some 45) #[true, true, true, true, true, true, true, true, true, true, true, true, true, true, false, false] rfl rfl (one_of HT_.out (by kernel_rfl)) (by decide) (fun K hK => ?_)
                        refine goes_ Tryd.func36 (by kernel_rfl) rfl #[.string (((rd_T51 l0 x6_1).f2).extract 0 ((ji11) : Int).toNat)] (by rfl) rfl rfl (by (try simp only [List.map_toArray, List.map_cons, List.map_nil]); first | done | (simp only [hji11]; rfl) | rfl | (simp only [List.length_drop, List.length_take]; rfl)) ?_
                        with_reducible refine (epitomeref01_Fit.calls kj4 (((rd_T51 l0 x6_1).f2).extract 0 ((ji11) : Int).toNat) t108 _ A14.out).mono ?_
                        rintro e w20 ⟨rfl, hb⟩
                        refine ⟨_, rfl, ?_⟩
                        have n0_ := Aside0.mk (Kd.R_below (by (with_reducible repeat (first | apply Kd.R_alloc | apply Kd.R_drewN | apply Kd.R_drew)); exact HO_5.out) hb)
                        have n1_ := Aside0.mk (blk_below (g := gb105) (o := .cells #[.int .i64 (wrap64 (1 + (Int.tmod (wrap64 ((Int.tmod ((rd_T51 l0 x6_1).f0) 3) + 3)) 3))), .int .i64 0, .string (⟨#[]⟩ : ByteArray)] 51 (0, 0)) (by (with_reducible repeat (first | refine blk_drewN ?_ _ | refine blk_drew ?_ | refine blk_alloc ?_ _)); exact BK105.out) hb)
                        have n2_ := Aside0.mk (below_step (by repeat (first | (with_reducible first | exact HB.out | apply below_alloc | apply pw_below_drewN | apply below_drew1 | refine below_set ?_ GE105.out) | exact HB.out)) hb)
                        clear HO_5
                        clear BK105
                        clear HB
                        have HO_5 := n0_
                        have BK105 := n1_
                        have HB := n2_
                        clear n0_ n1_ n2_
                        (try clear hb)
                        (try clear hb2)
                        (try clear hk)
                        (try clear hi)
                        refine hK.out _ _ ⟨((HB.out.cell (World.block_lt_of_cell? w _ hw106_0)).trans hw106_0), ((HB.out.cell (World.block_lt_of_cell? w _ hw106_1)).trans hw106_1), ((HB.out.cell (World.block_lt_of_cell? w _ hw106_2)).trans hw106_2), ((HB.out.cell (World.block_lt_of_cell? w _ hw107_0)).trans hw107_0), ((HB.out.cell (World.block_lt_of_cell? w _ hw107_1)).trans hw107_1), ((HB.out.cell (World.block_lt_of_cell? w _ hw107_2)).trans hw107_2)⟩ (fun hHeld => ?_)
                        clear hK K
                        refine norm_ (a' := ?_) ?_ ?_
                        rotate_left
                        · show Act.put _ (some 45) _ = _
                          simp only [Act.put, List.setIfInBounds_toArray, List.set_cons_zero, List.set_cons_succ, i64_w, i32_w]
                          rfl
                        refine pure_ (i := 14) (N := some 46) (v := ?_) (a' := ?_) #[true, true, true, true, true, true, true, true, true, true, true, true, true, true, true, false] rfl rfl (any_of HT_.out (by kernel_rfl)) (fun _ _ _ h => h) (Or.inl ⟨by rfl, ?_⟩) ?_ ?_
                        rotate_left
                        · intro w'
                          go_simp
                          with_reducible rfl
                        rotate_left
                        · simp only [Act.put, List.setIfInBounds_toArray, List.set_cons_zero, List.set_cons_succ, i64_w, i32_w]
                          rfl
                        refine one_ (i := 15) (N := none) #[true, true, true, true, true, true, true, true, true, true, true, true, true, true, true, true] rfl rfl (one_of HT_.out (by kernel_rfl)) (by decide) (fun K hK => ?_)
                        have hs21 : w20.cell? ⟨gb105, 2, none⟩ = some (.string (⟨#[]⟩ : ByteArray)) := (blk_cell BK105.out 2).trans rfl
                        have hfs21 := blk_frozen BK105.out 2
                        refine skip_ (w1 := ?_) (by rfl) rfl ?_ ?_
                        rotate_left
                        · go_simp
                          rfl
                        refine hK.out _ _ ⟨((cell_far (p := ⟨gb105, _, none⟩) (by first | exact Nat.ne_of_lt (Nat.lt_of_lt_of_le (by have := World.block_lt_of_cell? _ _ hw106_0; first | rwa [add_block] at this | exact this) GW105.out) | (rw [add_block]; exact Nat.ne_of_lt (Nat.lt_of_lt_of_le (by have := World.block_lt_of_cell? _ _ hw106_0; first | rwa [add_block] at this | exact this) GW105.out)) | (show (Addr.add _ _).block ≠ _; rw [add_block]; exact Nat.ne_of_lt (Nat.lt_of_lt_of_le (by have := World.block_lt_of_cell? _ _ hw106_0; first | rwa [add_block] at this | exact this) GW105.out)) | (dsimp only; exact Nat.ne_of_lt (Nat.lt_of_lt_of_le (by have := World.block_lt_of_cell? _ _ hw106_0; first | rwa [add_block] at this | exact this) GW105.out))) _).trans (hHeld.1)), ((cell_far (p := ⟨gb105, _, none⟩) (by first | exact Nat.ne_of_lt (Nat.lt_of_lt_of_le (by have := World.block_lt_of_cell? _ _ hw106_1; first | rwa [add_block] at this | exact this) GW105.out) | (rw [add_block]; exact Nat.ne_of_lt (Nat.lt_of_lt_of_le (by have := World.block_lt_of_cell? _ _ hw106_1; first | rwa [add_block] at this | exact this) GW105.out)) | (show (Addr.add _ _).block ≠ _; rw [add_block]; exact Nat.ne_of_lt (Nat.lt_of_lt_of_le (by have := World.block_lt_of_cell? _ _ hw106_1; first | rwa [add_block] at this | exact this) GW105.out)) | (dsimp only; exact Nat.ne_of_lt (Nat.lt_of_lt_of_le (by have := World.block_lt_of_cell? _ _ hw106_1; first | rwa [add_block] at this | exact this) GW105.out))) _).trans (hHeld.2.1)), ((cell_far (p := ⟨gb105, _, none⟩) (by first | exact Nat.ne_of_lt (Nat.lt_of_lt_of_le (by have := World.block_lt_of_cell? _ _ hw106_2; first | rwa [add_block] at this | exact this) GW105.out) | (rw [add_block]; exact Nat.ne_of_lt (Nat.lt_of_lt_of_le (by have := World.block_lt_of_cell? _ _ hw106_2; first | rwa [add_block] at this | exact this) GW105.out)) | (show (Addr.add _ _).block ≠ _; rw [add_block]; exact Nat.ne_of_lt (Nat.lt_of_lt_of_le (by have := World.block_lt_of_cell? _ _ hw106_2; first | rwa [add_block] at this | exact this) GW105.out)) | (dsimp only; exact Nat.ne_of_lt (Nat.lt_of_lt_of_le (by have := World.block_lt_of_cell? _ _ hw106_2; first | rwa [add_block] at this | exact this) GW105.out))) _).trans (hHeld.2.2.1)), ((cell_far (p := ⟨gb105, _, none⟩) (by first | exact Nat.ne_of_lt (Nat.lt_of_lt_of_le (by have := World.block_lt_of_cell? _ _ hw107_0; first | rwa [add_block] at this | exact this) GW105.out) | (rw [add_block]; exact Nat.ne_of_lt (Nat.lt_of_lt_of_le (by have := World.block_lt_of_cell? _ _ hw107_0; first | rwa [add_block] at this | exact this) GW105.out)) | (show (Addr.add _ _).block ≠ _; rw [add_block]; exact Nat.ne_of_lt (Nat.lt_of_lt_of_le (by have := World.block_lt_of_cell? _ _ hw107_0; first | rwa [add_block] at this | exact this) GW105.out)) | (dsimp only; exact Nat.ne_of_lt (Nat.lt_of_lt_of_le (by have := World.block_lt_of_cell? _ _ hw107_0; first | rwa [add_block] at this | exact this) GW105.out))) _).trans (hHeld.2.2.2.1)), ((cell_far (p := ⟨gb105, _, none⟩) (by first | exact Nat.ne_of_lt (Nat.lt_of_lt_of_le (by have := World.block_lt_of_cell? _ _ hw107_1; first | rwa [add_block] at this | exact this) GW105.out) | (rw [add_block]; exact Nat.ne_of_lt (Nat.lt_of_lt_of_le (by have := World.block_lt_of_cell? _ _ hw107_1; first | rwa [add_block] at this | exact this) GW105.out)) | (show (Addr.add _ _).block ≠ _; rw [add_block]; exact Nat.ne_of_lt (Nat.lt_of_lt_of_le (by have := World.block_lt_of_cell? _ _ hw107_1; first | rwa [add_block] at this | exact this) GW105.out)) | (dsimp only; exact Nat.ne_of_lt (Nat.lt_of_lt_of_le (by have := World.block_lt_of_cell? _ _ hw107_1; first | rwa [add_block] at this | exact this) GW105.out))) _).trans (hHeld.2.2.2.2.1)), ((cell_far (p := ⟨gb105, _, none⟩) (by first | exact Nat.ne_of_lt (Nat.lt_of_lt_of_le (by have := World.block_lt_of_cell? _ _ hw107_2; first | rwa [add_block] at this | exact this) GW105.out) | (rw [add_block]; exact Nat.ne_of_lt (Nat.lt_of_lt_of_le (by have := World.block_lt_of_cell? _ _ hw107_2; first | rwa [add_block] at this | exact this) GW105.out)) | (show (Addr.add _ _).block ≠ _; rw [add_block]; exact Nat.ne_of_lt (Nat.lt_of_lt_of_le (by have := World.block_lt_of_cell? _ _ hw107_2; first | rwa [add_block] at this | exact this) GW105.out)) | (dsimp only; exact Nat.ne_of_lt (Nat.lt_of_lt_of_le (by have := World.block_lt_of_cell? _ _ hw107_2; first | rwa [add_block] at this | exact this) GW105.out))) _).trans (hHeld.2.2.2.2.2))⟩ (fun hHeld => ?_)
                        clear hK K
                        refine done_ (done_of HT_.out (by kernel_rfl)) ?_
                        have hcz22_0 : w20.cell? ⟨gb105, 0, none⟩ = some (.int .i64 (wrap64 (1 + (Int.tmod (wrap64 ((Int.tmod ((rd_T51 l0 x6_1).f0) 3) + 3)) 3)))) := (blk_cell BK105.out 0).trans rfl
                        have hcz22_1 : w20.cell? ⟨gb105, 1, none⟩ = some (.int .i64 0) := (blk_cell BK105.out 1).trans rfl
                        have hcz22_2 : w20.cell? ⟨gb105, 2, none⟩ = some (.string (⟨#[]⟩ : ByteArray)) := (blk_cell BK105.out 2).trans rfl
                        have hfz22_0 := blk_frozen BK105.out 0
                        have hfz22_1 := blk_frozen BK105.out 1
                        have hfz22_2 := blk_frozen BK105.out 2
                        try go_wp2_with (first | ((with_reducible refine gate_builtin (b := .append) (xs := #[.tmp 62, .tmp 64]) rfl ?_); at_builtin; refine Kd.R_append k51 (w0 := w) w.heap.size rfl (.tmp 62) (.tmp 64) 22 51 (.agg #[(.int .i64 0), (.int .i64 0), (.string ⟨#[]⟩)]) 32 rfl Tryd.underlying22 info51 rfl (by decide) (by omega) u5 x5_1 (⟨wrap64 (1 + (Int.tmod (wrap64 ((Int.tmod ((rd_T51 l0 x6_1).f0) 3) + 3)) 3)), 0, t108⟩ : S51) [.int .i64 (wrap64 (1 + (Int.tmod (wrap64 ((Int.tmod ((rd_T51 l0 x6_1).f0) 3) + 3)) 3))), .int .i64 0, .string t108] (fun k_ => k_ ≠ gb105) (fun _ => False) rfl (by first | (go_simp; done) | (go_simp; rfl)) ?aP (fun _ hk => hk.elim) ?aF ?aO ?aB ?aS ?aL ?_; (case aP => exact k51_mkM _ _ _ (⟨wrap64 (1 + (Int.tmod (wrap64 ((Int.tmod ((rd_T51 l0 x6_1).f0) 3) + 3)) 3)), 0, t108⟩ : S51)); (case aB => exact (by repeat (first | (with_reducible first | exact HB.out | apply below_alloc | apply pw_below_drewN | apply below_drew1 | refine below_set ?_ GE105.out) | exact HB.out))); (case aF => exact (fun k_ hk => Kd.freshB (g := gb105) (o := .cells #[.int .i64 (wrap64 (1 + (Int.tmod (wrap64 ((Int.tmod ((rd_T51 l0 x6_1).f0) 3) + 3)) 3))), .int .i64 0, .string t108] 51 (0, 0)) (by (with_reducible repeat (first | refine blk_drewN ?_ _ | refine blk_drew ?_ | refine blk_alloc ?_ _)); refine blk_put (cs := #[.int .i64 (wrap64 (1 + (Int.tmod (wrap64 ((Int.tmod ((rd_T51 l0 x6_1).f0) 3) + 3)) 3))), .int .i64 0, .string (⟨#[]⟩ : ByteArray)]) ?_ 2 _ rfl; (with_reducible repeat (first | refine blk_drewN ?_ _ | refine blk_drew ?_ | refine blk_alloc ?_ _)); exact BK105.out) k_ hk)); (case aO => exact (by (with_reducible repeat (first | apply Kd.R_alloc | apply Kd.R_drewN | apply Kd.R_drew)); exact Kd.R_mono (Kd.R_far (p := ⟨gb105, 2, none⟩) (Kd.R_mono HO_5.out (fun k_ hk => (⟨hk, hk⟩ : _ ∧ k_ ≠ gb105))) (fun _ hk => hk.2) (.string t108)) (fun _ hk => hk.1))); (case aS => exact (below_size (by repeat (first | (with_reducible first | exact HB.out | apply below_alloc | apply pw_below_drewN | apply below_drew1 | refine below_set ?_ GE105.out) | exact HB.out)))); (case aL => have := LMc15.out; omega); intro v110 w23 ho hb hg hat; rw [← Ny109.out] at ho; have n0_ := Aside0.mk (blk_grown (g := gb105) (o := .cells #[.int .i64 (wrap64 (1 + (Int.tmod (wrap64 ((Int.tmod ((rd_T51 l0 x6_1).f0) 3) + 3)) 3))), .int .i64 0, .string t108] 51 (0, 0)) (by (with_reducible repeat (first | refine blk_drewN ?_ _ | refine blk_drew ?_ | refine blk_alloc ?_ _)); refine blk_put (cs := #[.int .i64 (wrap64 (1 + (Int.tmod (wrap64 ((Int.tmod ((rd_T51 l0 x6_1).f0) 3) + 3)) 3))), .int .i64 0, .string (⟨#[]⟩ : ByteArray)]) ?_ 2 _ rfl; (with_reducible repeat (first | refine blk_drewN ?_ _ | refine blk_drew ?_ | refine blk_alloc ?_ _)); exact BK105.out) hg (Kd.R_away HO_5.out (fun _ hk => hk))); have n1_ := Aside0.mk (hb); have n2_ := Aside0.mk (ho); clear BK105; clear HB; clear HO_5; have BK105 := n0_; have HB := n1_; have HO111 := n2_; clear n0_ n1_ n2_; clear ho hb hg hat))
                        go_roundg kj4
                        case measure => have := HK1.out; have := HJ4.out; omega
                        case rel => exact ⟨(x1_1), (y109), (wrap64 (x6_1 + 1)), (by first | rfl | (simp; done) | (simp [*]; done)), (by first | rfl | (simp; done) | (simp [*]; done)), H', ⟨by have := HK1.out; have := HJ4.out; omega⟩, ⟨by (with_reducible repeat (first | apply Kd.R_alloc | apply Kd.R_drewN | apply Kd.R_drew)); exact Kd.R_mono HO111.out (fun _ hk => trivial)⟩, ⟨by repeat (first | (with_reducible first | exact HB.out | apply below_alloc | apply pw_below_drewN | apply below_drew1 | refine below_set ?_ GE105.out) | exact HB.out)⟩⟩
                      · rw [if_neg c15] at H
                        exact absurd H (by simp)
                    · rw [if_neg c13] at H
                      exact absurd H (by simp)
                  · rw [if_neg c12] at H
                    exact absurd H (by simp)
                · rw [if_neg c10] at H
                  have c10b0 : ((wrap64 (1 + (Int.tmod (wrap64 ((Int.tmod ((rd_T51 l0 x6_1).f0) 3) + 3)) 3))) == 2) = false := beq_eq_false_iff_ne.mpr c10
                  have c10b1 : ((wrap64 (1 + (Int.tmod (wrap64 ((Int.tmod ((rd_T51 l0 x6_1).f0) 3) + 3)) 3))) != 2) = true := bne_iff_ne.mpr c10
                  obtain ⟨ji24, hji24⟩ : ∃ j_ : Int, (mn (Int.tmod (wrap64 ((Int.tmod ((rd_T51 l0 x6_1).f1) 7) + 7)) 7) x1_1) = j_ := ⟨_, rfl⟩
                  replace H : (if x5_1.length < 4398046511104 then (epitomeref04_Fit.l0 kj4 l0 (wrap64 (x1_1 - (ji24))) (x5_1 ++ [(⟨wrap64 (1 + (Int.tmod (wrap64 ((Int.tmod ((rd_T51 l0 x6_1).f0) 3) + 3)) 3)), ji24, (⟨#[]⟩ : ByteArray)⟩ : S51)]) (wrap64 (x6_1 + 1))) else (none)) = some r := by first | (rw [hji24] at H; exact H) | (simp only [hji24] at H ⊢; exact H)
                  have hji24_ : (if x1_1 < (Int.tmod (wrap64 ((Int.tmod ((rd_T51 l0 x6_1).f1) 7) + 7)) 7) then x1_1 else (Int.tmod (wrap64 ((Int.tmod ((rd_T51 l0 x6_1).f1) 7) + 7)) 7)) = ji24 := hji24
                  by_cases c25 : x5_1.length < 4398046511104
                  · rw [if_pos c25] at H
                    have LMc25 := Aside0.mk c25
                    clear c25
                    obtain ⟨y113, hy113⟩ : ∃ y_ : List (S51), y_ = (x5_1 ++ [(⟨wrap64 (1 + (Int.tmod (wrap64 ((Int.tmod ((rd_T51 l0 x6_1).f0) 3) + 3)) 3)), ji24, (⟨#[]⟩ : ByteArray)⟩ : S51)]) := ⟨_, rfl⟩
                    replace H : (epitomeref04_Fit.l0 kj4 l0 (wrap64 (x1_1 - (ji24))) y113 (wrap64 (x6_1 + 1))) = some r := by first | (rw [hy113]; with_reducible exact H) | (have H2_ := (Option.bind_some _ _).symm.trans H; rw [hy113]; with_reducible exact H2_) | (have H2_ := (Option.bind_some _ _).symm.trans H; with_reducible exact H2_) | with_reducible exact H | (rw [hy113]; exact H) | exact H
                    have Ny113 := Aside0.mk hy113
                    clear hy113
                    have H' := Aside0.mk H
                    clear H
                    have p104 : 0 ≤ (x6_1 : Int) := of_decide_eq_true (by first | (with_reducible assumption) | assumption)
                    have q104 : x6_1 < (l0.length : Int) := of_decide_eq_true (by first | (with_reducible assumption) | assumption)
                    obtain ⟨ad104, e104, hx104_0, hx104_1, hx104_2⟩ := at_T51 HR0.out x6_1 p104 q104
                    cases e104
                    replace hx104_0 := (HB.out.cell (World.block_lt_of_cell? w _ hx104_0)).trans hx104_0
                    replace hx104_1 := (HB.out.cell (World.block_lt_of_cell? w _ hx104_1)).trans hx104_1
                    replace hx104_2 := (HB.out.cell (World.block_lt_of_cell? w _ hx104_2)).trans hx104_2
                    replace p104 := eq_true p104
                    replace q104 := eq_true q104
                    go_wp2_with (first | ((with_reducible refine gate_dst (N := 7) rfl ?_); refine box_event ?hg (N := 7) ?hd (cs := #[.int .i64 0, .int .i64 0, .string (⟨#[]⟩ : ByteArray)]) (t := 51) ?hr ?_; (case hd => rfl); (case hg => rfl); (case hr => first | (go_simp; done) | (go_simp; rfl)); intro gb105 hg w26 hbox hb; have n0_ := Aside0.mk (Kd.R_below (Kd.R_elderB (by (with_reducible repeat (first | apply Kd.R_alloc | apply Kd.R_drewN | apply Kd.R_drew)); exact HO_5.out) gb105 (Nat.le_of_eq hg.symm)) hb); have n1_ := Aside0.mk (below_step (by repeat (first | (with_reducible first | exact HB.out | apply below_alloc | apply pw_below_drewN | apply below_drew1) | exact HB.out)) hb); have n2_ := Aside0.mk (hbox); have n3_ := Aside0.mk ((by rw [hg]; exact (below_size (by repeat (first | (with_reducible first | exact HB.out | apply below_alloc | apply pw_below_drewN | apply below_drew1) | exact HB.out))) : w.heap.size ≤ gb105)); have n4_ := Aside0.mk ((by rw [hg]; exact (below_size (by repeat (first | (with_reducible first | exact HB.out | apply below_alloc | apply pw_below_drewN | apply below_drew1) | exact HB.out))) : w.heap.size ≤ gb105)); clear HO_5; clear HB; have HO_5 := n0_; have HB := n1_; have BK105 := n2_; have GW105 := n3_; have GE105 := n4_; clear n0_ n1_ n2_ n3_ n4_; clear hb hbox hg; have hcz27_0 : w26.cell? ⟨gb105, 0, none⟩ = some (.int .i64 0) := (blk_cell BK105.out 0).trans rfl; have hcz27_1 : w26.cell? ⟨gb105, 1, none⟩ = some (.int .i64 0) := (blk_cell BK105.out 1).trans rfl; have hcz27_2 : w26.cell? ⟨gb105, 2, none⟩ = some (.string (⟨#[]⟩ : ByteArray)) := (blk_cell BK105.out 2).trans rfl; have hfz27_0 := blk_frozen BK105.out 0; have hfz27_1 := blk_frozen BK105.out 1; have hfz27_2 := blk_frozen BK105.out 2; have p112 : 0 ≤ (x6_1 : Int) := of_decide_eq_true (by first | (with_reducible assumption) | assumption); have q112 : x6_1 < (l0.length : Int) := of_decide_eq_true (by first | (with_reducible assumption) | assumption); obtain ⟨ad112, e112, hx112_0, hx112_1, hx112_2⟩ := at_T51 HR0.out x6_1 p112 q112; obtain rfl : ad104 = ad112 := (by injection e112); have hn112_0 : ad104.block ≠ gb105 := Nat.ne_of_lt (Nat.lt_of_lt_of_le (by have := World.block_lt_of_cell? _ _ hx112_0; first | rwa [add_block] at this | exact this) GW105.out); have hn112_1 : ad104.block ≠ gb105 := Nat.ne_of_lt (Nat.lt_of_lt_of_le (by have := World.block_lt_of_cell? _ _ hx112_0; first | rwa [add_block] at this | exact this) GW105.out); have hn112_2 : ad104.block ≠ gb105 := Nat.ne_of_lt (Nat.lt_of_lt_of_le (by have := World.block_lt_of_cell? _ _ hx112_0; first | rwa [add_block] at this | exact this) GW105.out); replace hx112_0 := (HB.out.cell (World.block_lt_of_cell? w _ hx112_0)).trans hx112_0; replace hx112_1 := (HB.out.cell (World.block_lt_of_cell? w _ hx112_1)).trans hx112_1; replace hx112_2 := (HB.out.cell (World.block_lt_of_cell? w _ hx112_2)).trans hx112_2; replace hx112_0 := (cell_far (p := ⟨gb105, 0, none⟩) (by first | (rw [add_block]; exact hn112_0) | (show (Addr.add _ _).block ≠ _; rw [add_block]; exact hn112_0) | exact hn112_0) (.int .i64 (wrap64 (1 + (Int.tmod (wrap64 ((Int.tmod ((rd_T51 l0 x6_1).f0) 3) + 3)) 3))))).trans hx112_0; replace hx112_1 := (cell_far (p := ⟨gb105, 0, none⟩) (by first | (rw [add_block]; exact hn112_0) | (show (Addr.add _ _).block ≠ _; rw [add_block]; exact hn112_0) | exact hn112_0) (.int .i64 (wrap64 (1 + (Int.tmod (wrap64 ((Int.tmod ((rd_T51 l0 x6_1).f0) 3) + 3)) 3))))).trans hx112_1; replace hx112_2 := (cell_far (p := ⟨gb105, 0, none⟩) (by first | (rw [add_block]; exact hn112_0) | (show (Addr.add _ _).block ≠ _; rw [add_block]; exact hn112_0) | exact hn112_0) (.int .i64 (wrap64 (1 + (Int.tmod (wrap64 ((Int.tmod ((rd_T51 l0 x6_1).f0) 3) + 3)) 3))))).trans hx112_2; replace hx112_0 := (cell_far (p := ⟨gb105, 1, none⟩) (by first | (rw [add_block]; exact hn112_1) | (show (Addr.add _ _).block ≠ _; rw [add_block]; exact hn112_1) | exact hn112_1) (.int .i64 0)).trans hx112_0; replace hx112_1 := (cell_far (p := ⟨gb105, 1, none⟩) (by first | (rw [add_block]; exact hn112_1) | (show (Addr.add _ _).block ≠ _; rw [add_block]; exact hn112_1) | exact hn112_1) (.int .i64 0)).trans hx112_1; replace hx112_2 := (cell_far (p := ⟨gb105, 1, none⟩) (by first | (rw [add_block]; exact hn112_1) | (show (Addr.add _ _).block ≠ _; rw [add_block]; exact hn112_1) | exact hn112_1) (.int .i64 0)).trans hx112_2; replace hx112_0 := (cell_far (p := ⟨gb105, 2, none⟩) (by first | (rw [add_block]; exact hn112_2) | (show (Addr.add _ _).block ≠ _; rw [add_block]; exact hn112_2) | exact hn112_2) (.string (⟨#[]⟩ : ByteArray))).trans hx112_0; replace hx112_1 := (cell_far (p := ⟨gb105, 2, none⟩) (by first | (rw [add_block]; exact hn112_2) | (show (Addr.add _ _).block ≠ _; rw [add_block]; exact hn112_2) | exact hn112_2) (.string (⟨#[]⟩ : ByteArray))).trans hx112_1; replace hx112_2 := (cell_far (p := ⟨gb105, 2, none⟩) (by first | (rw [add_block]; exact hn112_2) | (show (Addr.add _ _).block ≠ _; rw [add_block]; exact hn112_2) | exact hn112_2) (.string (⟨#[]⟩ : ByteArray))).trans hx112_2; clear hn112_0; clear hn112_1; clear hn112_2; replace p112 := eq_true p112; replace q112 := eq_true q112) | ((with_reducible refine gate_builtin (b := .append) (xs := #[.tmp 62, .tmp 64]) rfl ?_); at_builtin; refine Kd.R_append k51 (w0 := w) w.heap.size rfl (.tmp 62) (.tmp 64) 22 51 (.agg #[(.int .i64 0), (.int .i64 0), (.string ⟨#[]⟩)]) 32 rfl Tryd.underlying22 info51 rfl (by decide) (by omega) u5 x5_1 (⟨wrap64 (1 + (Int.tmod (wrap64 ((Int.tmod ((rd_T51 l0 x6_1).f0) 3) + 3)) 3)), ji24, (⟨#[]⟩ : ByteArray)⟩ : S51) [.int .i64 (wrap64 (1 + (Int.tmod (wrap64 ((Int.tmod ((rd_T51 l0 x6_1).f0) 3) + 3)) 3))), .int .i64 ji24, .string (⟨#[]⟩ : ByteArray)] (fun k_ => k_ ≠ gb105) (fun _ => False) rfl (by first | (go_simp; done) | (go_simp; rfl)) ?aP (fun _ hk => hk.elim) ?aF ?aO ?aB ?aS ?aL ?_; (case aP => exact k51_mkM _ _ _ (⟨wrap64 (1 + (Int.tmod (wrap64 ((Int.tmod ((rd_T51 l0 x6_1).f0) 3) + 3)) 3)), ji24, (⟨#[]⟩ : ByteArray)⟩ : S51)); (case aB => exact (by repeat (first | (with_reducible first | exact HB.out | apply below_alloc | apply pw_below_drewN | apply below_drew1 | refine below_set ?_ GE105.out) | exact HB.out))); (case aF => exact (fun k_ hk => Kd.freshB (g := gb105) (o := .cells #[.int .i64 (wrap64 (1 + (Int.tmod (wrap64 ((Int.tmod ((rd_T51 l0 x6_1).f0) 3) + 3)) 3))), .int .i64 ji24, .string (⟨#[]⟩ : ByteArray)] 51 (0, 0)) (by (with_reducible repeat (first | refine blk_drewN ?_ _ | refine blk_drew ?_ | refine blk_alloc ?_ _)); refine blk_put (cs := #[.int .i64 (wrap64 (1 + (Int.tmod (wrap64 ((Int.tmod ((rd_T51 l0 x6_1).f0) 3) + 3)) 3))), .int .i64 0, .string (⟨#[]⟩ : ByteArray)]) ?_ 1 _ rfl; (with_reducible repeat (first | refine blk_drewN ?_ _ | refine blk_drew ?_ | refine blk_alloc ?_ _)); refine blk_put (cs := #[.int .i64 (wrap64 (1 + (Int.tmod (wrap64 ((Int.tmod ((rd_T51 l0 x6_1).f0) 3) + 3)) 3))), .int .i64 0, .string (⟨#[]⟩ : ByteArray)]) ?_ 2 _ rfl; (with_reducible repeat (first | refine blk_drewN ?_ _ | refine blk_drew ?_ | refine blk_alloc ?_ _)); refine blk_put (cs := #[.int .i64 (wrap64 (1 + (Int.tmod (wrap64 ((Int.tmod ((rd_T51 l0 x6_1).f0) 3) + 3)) 3))), .int .i64 0, .string (⟨#[]⟩ : ByteArray)]) ?_ 1 _ rfl; (with_reducible repeat (first | refine blk_drewN ?_ _ | refine blk_drew ?_ | refine blk_alloc ?_ _)); refine blk_put (cs := #[.int .i64 0, .int .i64 0, .string (⟨#[]⟩ : ByteArray)]) ?_ 0 _ rfl; (with_reducible repeat (first | refine blk_drewN ?_ _ | refine blk_drew ?_ | refine blk_alloc ?_ _)); exact BK105.out) k_ hk)); (case aO => exact (by (with_reducible repeat (first | apply Kd.R_alloc | apply Kd.R_drewN | apply Kd.R_drew)); exact Kd.R_mono (Kd.R_far (p := ⟨gb105, 1, none⟩) (Kd.R_far (p := ⟨gb105, 2, none⟩) (Kd.R_far (p := ⟨gb105, 1, none⟩) (Kd.R_far (p := ⟨gb105, 0, none⟩) (Kd.R_mono HO_5.out (fun k_ hk => (⟨hk, hk.2⟩ : _ ∧ k_ ≠ gb105))) (fun _ hk => hk.2) (.int .i64 (wrap64 (1 + (Int.tmod (wrap64 ((Int.tmod ((rd_T51 l0 x6_1).f0) 3) + 3)) 3))))) (fun _ hk => hk.2) (.int .i64 0)) (fun _ hk => hk.2) (.string (⟨#[]⟩ : ByteArray))) (fun _ hk => hk.2) (.int .i64 ji24)) (fun _ hk => hk.1.2))); (case aS => exact (below_size (by repeat (first | (with_reducible first | exact HB.out | apply below_alloc | apply pw_below_drewN | apply below_drew1 | refine below_set ?_ GE105.out) | exact HB.out)))); (case aL => have := LMc25.out; omega); intro v114 w28 ho hb hg hat; rw [← Ny113.out] at ho; have n0_ := Aside0.mk (blk_grown (g := gb105) (o := .cells #[.int .i64 (wrap64 (1 + (Int.tmod (wrap64 ((Int.tmod ((rd_T51 l0 x6_1).f0) 3) + 3)) 3))), .int .i64 ji24, .string (⟨#[]⟩ : ByteArray)] 51 (0, 0)) (by (with_reducible repeat (first | refine blk_drewN ?_ _ | refine blk_drew ?_ | refine blk_alloc ?_ _)); refine blk_put (cs := #[.int .i64 (wrap64 (1 + (Int.tmod (wrap64 ((Int.tmod ((rd_T51 l0 x6_1).f0) 3) + 3)) 3))), .int .i64 0, .string (⟨#[]⟩ : ByteArray)]) ?_ 1 _ rfl; (with_reducible repeat (first | refine blk_drewN ?_ _ | refine blk_drew ?_ | refine blk_alloc ?_ _)); refine blk_put (cs := #[.int .i64 (wrap64 (1 + (Int.tmod (wrap64 ((Int.tmod ((rd_T51 l0 x6_1).f0) 3) + 3)) 3))), .int .i64 0, .string (⟨#[]⟩ : ByteArray)]) ?_ 2 _ rfl; (with_reducible repeat (first | refine blk_drewN ?_ _ | refine blk_drew ?_ | refine blk_alloc ?_ _)); refine blk_put (cs := #[.int .i64 (wrap64 (1 + (Int.tmod (wrap64 ((Int.tmod ((rd_T51 l0 x6_1).f0) 3) + 3)) 3))), .int .i64 0, .string (⟨#[]⟩ : ByteArray)]) ?_ 1 _ rfl; (with_reducible repeat (first | refine blk_drewN ?_ _ | refine blk_drew ?_ | refine blk_alloc ?_ _)); refine blk_put (cs := #[.int .i64 0, .int .i64 0, .string (⟨#[]⟩ : ByteArray)]) ?_ 0 _ rfl; (with_reducible repeat (first | refine blk_drewN ?_ _ | refine blk_drew ?_ | refine blk_alloc ?_ _)); exact BK105.out) hg (Kd.R_away HO_5.out (fun _ hk => hk.2))); have n1_ := Aside0.mk (hb); have n2_ := Aside0.mk (ho); clear BK105; clear HB; clear HO_5; have BK105 := n0_; have HB := n1_; have HO115 := n2_; clear n0_ n1_ n2_; clear ho hb hg hat))
                    go_roundg kj4
                    case measure => have := HK1.out; have := HJ4.out; omega
                    case rel => exact ⟨(wrap64 (x1_1 - (ji24))), (y113), (wrap64 (x6_1 + 1)), (by first | rfl | (simp; done) | (simp only [← hji24] <;> (first | rfl | simp)) | (simp [*]; done)), (by first | rfl | (simp; done) | (simp [*]; done)), H', ⟨by have := HK1.out; have := HJ4.out; omega⟩, ⟨by (with_reducible repeat (first | apply Kd.R_alloc | apply Kd.R_drewN | apply Kd.R_drew)); exact Kd.R_mono HO115.out (fun _ hk => trivial)⟩, ⟨by repeat (first | (with_reducible first | exact HB.out | apply below_alloc | apply pw_below_drewN | apply below_drew1 | refine below_set ?_ GE105.out) | exact HB.out)⟩⟩
                  · rw [if_neg c25] at H
                    exact absurd H (by simp)
              · rw [if_neg c9] at H
                exact absurd H (by simp)
            · rw [if_neg c8] at H
              exact absurd H (by simp)
          · replace c7 := Bool.eq_false_iff.mpr c7
            subst c7
            have H1 : (if x1_1 > 0 then (if x5_1.length < 4398046511104 then (some (x5_1 ++ [(⟨1, x1_1, (⟨#[]⟩ : ByteArray)⟩ : S51)])) else (none)) else (some x5_1)) = some r := by rw [if_neg (show ¬ (false = true) by decide)] at H; exact H
            clear H
            have H := H1
            clear H1
            by_cases c29 : x1_1 > 0
            · rw [if_pos c29] at H
              have c29b0 : decide (0 < x1_1) = true := decide_eq_true c29
              clear c29
              by_cases c30 : x5_1.length < 4398046511104
              · rw [if_pos c30] at H
                have LMc30 := Aside0.mk c30
                clear c30
                obtain ⟨y116, hy116⟩ : ∃ y_ : List (S51), y_ = (x5_1 ++ [(⟨1, x1_1, (⟨#[]⟩ : ByteArray)⟩ : S51)]) := ⟨_, rfl⟩
                replace H : (some y116) = some r := by first | (rw [hy116]; with_reducible exact H) | (have H2_ := (Option.bind_some _ _).symm.trans H; rw [hy116]; with_reducible exact H2_) | (have H2_ := (Option.bind_some _ _).symm.trans H; with_reducible exact H2_) | with_reducible exact H | (rw [hy116]; exact H) | exact H
                have Ny116 := Aside0.mk hy116
                clear hy116
                obtain rfl := Option.some.inj H
                go_wp2_with (first | ((with_reducible refine gate_builtin (b := .append) (xs := #[.tmp 68, .tmp 71]) rfl ?_); at_builtin; refine Kd.R_append k51 (w0 := w) w.heap.size rfl (.tmp 68) (.tmp 71) 22 51 (.agg #[(.int .i64 0), (.int .i64 0), (.string ⟨#[]⟩)]) 32 rfl Tryd.underlying22 info51 rfl (by decide) (by omega) u5 x5_1 (⟨1, x1_1, (⟨#[]⟩ : ByteArray)⟩ : S51) [.int .i64 1, .int .i64 x1_1, .string (⟨#[]⟩ : ByteArray)] (fun _ => True) (fun _ => False) rfl rfl ?aP (fun _ hk => hk.elim) ?aF ?aO ?aB ?aS ?aL ?_; (case aP => exact k51_mkM _ _ _ (⟨1, x1_1, (⟨#[]⟩ : ByteArray)⟩ : S51)); (case aB => exact (by repeat (first | (with_reducible first | exact HB.out | apply below_alloc | apply pw_below_drewN | apply below_drew1) | exact HB.out))); (case aF => exact (fun _ _ => trivial)); (case aO => exact (by (with_reducible repeat (first | apply Kd.R_alloc | apply Kd.R_drewN | apply Kd.R_drew)); exact HO_5.out)); (case aS => exact (below_size (by repeat (first | (with_reducible first | exact HB.out | apply below_alloc | apply pw_below_drewN | apply below_drew1) | exact HB.out)))); (case aL => have := LMc30.out; omega); intro v117 w31 ho hb hg hat; rw [← Ny116.out] at ho; have n0_ := Aside0.mk (hb); have n1_ := Aside0.mk (ho); clear HB; clear HO_5; have HB := n0_; have HO118 := n1_; clear n0_ n1_; clear ho hb hg hat))
                go_ret
                exact ⟨_, by first | rfl | (simp [errW_none, errW_some] <;> rfl) | (simp [*, errW_none, errW_some] <;> rfl), by (with_reducible repeat (first | apply Kd.R_alloc | apply Kd.R_drewN | apply Kd.R_drew)); exact HO118.out, by repeat (first | (with_reducible first | exact HB.out | apply below_alloc | apply pw_below_drewN | apply below_drew1) | exact HB.out)⟩
              · rw [if_neg c30] at H
                exact absurd H (by simp)
            · rw [if_neg c29] at H
              have c29b0 : decide (0 < x1_1) = false := decide_eq_false c29
              clear c29
              obtain rfl := Option.some.inj H
              go_wp2
              go_ret
              exact ⟨_, by first | rfl | (simp [errW_none, errW_some] <;> rfl) | (simp [*, errW_none, errW_some] <;> rfl), by (with_reducible repeat (first | apply Kd.R_alloc | apply Kd.R_drewN | apply Kd.R_drew)); exact HO_5.out, by repeat (first | (with_reducible first | exact HB.out | apply below_alloc | apply pw_below_drewN | apply below_drew1) | exact HB.out)⟩
end Go.Proofs.YtphbemkdhneklaaDoor.F
end
section
namespace Go.Proofs.YtphbemkdhneklaaDoor.F
open Go.RowKit Go.Proofs.YtphbemkdhneklaaDoorW.PrintWords Go.Proofs.YtphbemkdhneklaaDoorW.PrintLast Go.Proofs.YtphbemkdhneklaaDoorW.PrintMore
set_option linter.unusedVariables false
set_option linter.unusedSimpArgs false
open Go.Shelf
attribute [local go_sem] Oper.semAt_some max2_int min2_int max_two min_two
def inS (s : S51) : Int := (span_In.f s.f0 s.f1 s.f2).getD 0
def outS (s : S51) : Int := (span_Out.f s.f0 s.f1 s.f2).getD 0
def stepsOk (l : List S51) : Bool := l.all fun s => (span_In.f s.f0 s.f1 s.f2).isSome && (span_Out.f s.f0 s.f1 s.f2).isSome
structure St where
  s : S51
  i : Int
  o : Int
  h : (span_Out.f s.f0 s.f1 s.f2).isSome = true
theorem zero_out : (span_Out.f 0 0 ⟨#[]⟩).isSome = true := by simp [span_Out.f, span_of.f]
def stepsL : List S51 → Int → Int → List St
  | [], i, o => [⟨⟨0, 0, ⟨#[]⟩⟩, i, o, zero_out⟩]
  | s :: r, i, o => if h : (span_Out.f s.f0 s.f1 s.f2).isSome = true then ⟨s, i, o, h⟩ :: stepsL r (wrap64 (i + inS s)) (wrap64 (o + outS s)) else []
def encSt (x : St) : Value := .agg #[.int .i64 x.s.f0, .int .i64 x.s.f1, .string x.s.f2, .int .i64 x.i, .int .i64 x.o]
structure KpS (n m : Nat) (W W' : World) : Prop where
  b : Below n W W'
  c : ∀ (k : Nat) (o : Obj), m ≤ k → W.heap[k]? = some o → o.isCells = true → W'.heap[k]? = some o
theorem KpS.refl (n m : Nat) (W : World) : KpS n m W W := ⟨Below.refl _ _, fun _ _ _ h _ => h⟩
theorem KpS.trans {n m : Nat} {A B C : World} (h : KpS n m A B) (k : KpS n m B C) : KpS n m A C := ⟨h.b.trans k.b, fun i o hm hi ho => k.c i o hm (h.c i o hm hi ho) ho⟩
theorem KpS.put {n m : Nat} {w : World} (hn : n ≤ w.heap.size) (W : World) (l : Nat) (o o' : Obj) (hl : w.heap.size ≤ l) (h : W.heap[l]? = some o) (hc : o.isCells = false) (hw : o.isWalk = false) : KpS n m W (W.putObj l o') :=
  ⟨belowK_b hn W l o o' hl h hc hw, fun k p _ hk hp => by
    by_cases e : k = l
    · subst e; rw [h] at hk; cases hk; rw [hc] at hp; cases hp
    · exact (World.putObj_heap_other e).trans hk⟩
theorem KpS.set {n m : Nat} (W : World) (b : Nat) (v : Value) (hn : n ≤ b) (hm : b < m) : KpS n m W (W.setCell ⟨b, 0, none⟩ v) :=
  ⟨(Below.refl _ W).setCell (p := ⟨b, 0, none⟩) hn v, fun k o hk h _ => (Below.heap_setCell W ⟨b, 0, none⟩ v k (by show k ≠ b; omega)).trans h⟩
theorem KpS.more {n m : Nat} {W W' : World} (h : Below W.heap.size W W') (hn : n ≤ W.heap.size) : KpS n m W W' :=
  ⟨h.mono hn, fun k o _ hk _ => (h.block k (Array.getElem?_eq_some_iff.1 hk).1).trans hk⟩
theorem grown_of_below {W W' : World} (h : Below W.heap.size W W') : W.grownBy W' none := ⟨h.os, h.tape, h.output, h.size, fun k hk _ => h.block k hk⟩
theorem abides_more {β : Type} {B : Nat} {J : β → World → Prop} (hJ : AbidesFrom B J) {s : β} {W W' : World} (h : J s W) (hb : Below W.heap.size W W') : J s W' := hJ s W W' none h (grown_of_below hb) (fun r e => by cases e)
theorem some_in {s : S51} (h : (span_In.f s.f0 s.f1 s.f2).isSome = true) : span_In.f s.f0 s.f1 s.f2 = some (inS s) := by
  unfold inS
  cases hh : span_In.f s.f0 s.f1 s.f2 with
  | none => rw [hh] at h; cases h
  | some v => rfl
theorem some_out {s : S51} (h : (span_Out.f s.f0 s.f1 s.f2).isSome = true) : span_Out.f s.f0 s.f1 s.f2 = some (outS s) := by
  unfold outS
  cases hh : span_Out.f s.f0 s.f1 s.f2 with
  | none => rw [hh] at h; cases h
  | some v => rfl
theorem stepsOk_at {l pre r : List S51} {s : S51} (h : stepsOk l = true) (e : l = pre ++ s :: r) : span_In.f s.f0 s.f1 s.f2 = some (inS s) ∧ span_Out.f s.f0 s.f1 s.f2 = some (outS s) := by
  have := List.all_eq_true.1 h s (by rw [e]; simp)
  rw [Bool.and_eq_true] at this
  exact ⟨some_in this.1, some_out this.2⟩
set_option maxRecDepth 100000 in
set_option maxHeartbeats 4000000 in
theorem steps1_in (n l Bs n₀ m : Nat) (hn : 1 ≤ n) (A0 : Option Addr) (c0 : Nat) (l0 : List S51) (w : World) (hn₀ : n₀ = w.heap.size) (hG : Glob w) (hr0 : Kd.C k51 w A0 l0.length l0) (hok : stepsOk l0 = true) (J Jx : List St → World → Prop)
    (hY : ∀ pre x W, J pre W → pre.length < l0.length + 1 → YieldAt Fence.wide (n - 1) Tryd.prog l #[encSt x] W fun e W' =>
      (e = .returned (.bool true) ∧ J (pre ++ [x]) W' ∧ KpS n₀ m W W') ∨ (e = .returned (.bool false) ∧ Jx (pre ++ [x]) W'))
    (W : World) (hJ : AbidesFrom W.heap.size J) (hm : m ≤ W.heap.size)
    (hB : Below n₀ w W) (hBs : W.cell? ⟨Bs, 0, none⟩ = some (.slice A0 l0.length c0)) (h0 : J [] W) :
    CallsIn Fence.wide n Tryd.prog 67 #[.func (.yield l) #[] #[], .pointer (some ⟨Bs, 0, none⟩)] W fun e W' => (∃ v, e = .returned v) ∧
      ((∃ ys, ys = stepsL l0 0 0 ∧ J ys W') ∨ (∃ pre, pre <+: stepsL l0 0 0 ∧ Jx pre W')) := by
  subst hn₀
  have HG := Aside0.mk hG
  have HR0 := Aside0.mk hr0
  have HY := Aside0.mk hY
  have HB := Aside0.mk hB
  have HJ := Aside0.mk hJ
  have H0 := Aside0.mk h0
  have HOK := Aside0.mk hok
  have HM : Aside0 (l0.length ≤ 9223372036854775807) := ⟨hr0.2.1⟩
  have HMM := Aside0.mk hm
  clear hG hr0 hY hB hJ h0 hok hm
  refine callsIn_of_wp Tryd.func67 rfl trivial ?_ rfl
  simp only [Tryd.ntmps67, List.size_toArray, List.length_cons, List.length_nil, Nat.reduceAdd, Nat.reduceSub, Array.replicate_succ, Array.replicate_zero, List.push_toArray, List.append_toArray, List.nil_append, List.cons_append]
  gi_wp2
  gi_loopw [3, 4, 9] (fun v3 v4 v9 wr => ∃ (done rest : List S51) (i o : Int), v3 = .int .i64 i ∧ v4 = .int .i64 o ∧ v9 = .int .i64 (done.length : Int) ∧ Aside0 (l0 = done ++ rest) ∧
    Aside0 (∃ pre, stepsL l0 0 0 = pre ++ stepsL rest i o ∧ pre.length = done.length ∧ J pre wr) ∧ Aside0 (Below w.heap.size w wr) ∧ Aside0 (W.heap.size ≤ wr.heap.size)) (fun _ _ v9 _ => l0.length - (intOf v9).toNat)
  case atStart => exact ⟨[], l0, 0, 0, rfl, rfl, rfl, ⟨rfl⟩, ⟨[], rfl, rfl, H0.out⟩, HB, ⟨Nat.le_refl _⟩⟩
  case round =>
    obtain ⟨done, rest, i, o, rfl, rfl, rfl, HL, HP, HBR, HSZ⟩ := hrel
    clear hBs
    have hdl : Aside0 (l0.length = done.length + rest.length) := ⟨by have := HL.out; rw [this]; simp⟩
    have HMR : Aside0 (m ≤ wr.heap.size) := ⟨by have := HMM.out; have := HSZ.out; omega⟩
    cases rest with
    | nil =>
      have hlt : decide ((done.length : Int) < (l0.length : Int)) = false := decide_eq_false (by have := hdl.out; simp at this; omega)
      have hlt2 : decide (done.length < l0.length) = false := decide_eq_false (by have := hdl.out; simp at this; omega)
      obtain ⟨pre, e1, e2, hJs⟩ := HP.out
      obtain ⟨fn, tmps, assign, body, hy, hR⟩ := HY.out pre ⟨⟨0, 0, ⟨#[]⟩⟩, i, o, zero_out⟩ wr hJs (by have := hdl.out; simp at this; omega)
      have E1 := Aside0.mk e1
      have RR := Aside0.mk hR
      clear e1 e2 hJs hR
      dsimp only [encSt] at hy
      gi_wp2
      refine RR.out.mono ?_
      rintro e W3 (⟨rfl, hJ3, hk3⟩ | ⟨rfl, hJx3⟩)
      · gi_wp2
        go_end0
        exact ⟨⟨_, rfl⟩, .inl ⟨_, E1.out.symm, hJ3⟩⟩
      · gi_wp2
        go_end0
        exact ⟨⟨_, rfl⟩, .inr ⟨_, ⟨[], by rw [List.append_nil]; exact E1.out.symm⟩, hJx3⟩⟩
    | cons s r =>
      have hlt : (done.length : Int) < (l0.length : Int) := by have := hdl.out; simp at this; omega
      have hlt1 : done.length < l0.length := by omega
      have hmx : (l0.length : Int) ≤ 9223372036854775807 := by have := HM.out; omega
      obtain ⟨ad, e, hx0, hx1, hx2⟩ := at_T51 (Kd.C_below HR0.out HBR.out) (done.length : Int) (by omega) hlt
      cases e
      have hrd : rd_T51 l0 (done.length : Int) = s := by
        unfold rd_T51
        rw [Int.toNat_natCast, List.getD_eq_getElem?_getD, HL.out]
        simp
      rw [hrd, Int.toNat_natCast] at hx0 hx1 hx2
      obtain ⟨pre, e1, e2, hJs⟩ := HP.out
      have hok2 := stepsOk_at HOK.out HL.out
      have hso : (span_Out.f s.f0 s.f1 s.f2).isSome = true := by rw [hok2.2]; rfl
      have HSI := Aside0.mk hok2.1
      have HSO := Aside0.mk hok2.2
      have hbl := below_alloc (Below.refl _ wr) (.cells #[.int .i64 s.f0, .int .i64 s.f1, .string s.f2] 51)
      obtain ⟨fn, tmps, assign, body, hy, hR⟩ := HY.out pre ⟨s, i, o, hso⟩ (wr.alloc (.cells #[.int .i64 s.f0, .int .i64 s.f1, .string s.f2] 51)) (abides_more HJ.out hJs hbl) (by have := hdl.out; simp at this; omega)
      have E1 := Aside0.mk e1
      have E2 := Aside0.mk e2
      have RR := Aside0.mk hR
      have HB2 := Aside0.mk (below_step HBR.out hbl)
      have BX : Aside0 ((wr.alloc (.cells #[.int .i64 s.f0, .int .i64 s.f1, .string s.f2] 51)).heap[wr.heap.size]? = some (.cells #[.int .i64 s.f0, .int .i64 s.f1, .string s.f2] 51 (0, 0))) := ⟨blk_new wr _⟩
      have HSO2 := Aside0.mk hso
      clear hrd e1 e2 hJs hok2 hR hbl
      dsimp only [encSt] at hy
      gi_wp2
      refine RR.out.mono ?_
      rintro e W3 (⟨rfl, hJ3, hk3⟩ | ⟨rfl, hJx3⟩)
      · have BX3 := Aside0.mk (hk3.c _ _ HMR.out BX.out rfl)
        have HB3 := Aside0.mk (HB2.out.trans hk3.b)
        have J3 := Aside0.mk hJ3
        have SZ3 := Aside0.mk (Nat.le_trans HSZ.out (Nat.le_trans (by simp) hk3.b.size))
        clear hJ3 hk3
        have cx0 := (blk_cell BX3.out 0).trans (show _ = some (Value.int .i64 s.f0) from rfl)
        have cx1 := (blk_cell BX3.out 1).trans (show _ = some (Value.int .i64 s.f1) from rfl)
        have cx2 := (blk_cell BX3.out 2).trans (show _ = some (Value.string s.f2) from rfl)
        gi_wp2_with (first | (refine ⟨trivial, ?_⟩; gi_at_call 47; (with_reducible refine (callsIn_wide.2 (span_In.calls _ _ _ _ _ (HG.out.below HB3.out) HSI.out)).mono ?_); rintro e W4 ⟨rfl, hb⟩; have HB4 := Aside0.mk hb; clear hb cx0 cx1 cx2; have cx0 := (blk_cell (blk_below BX3.out HB4.out) 0).trans (show _ = some (Value.int .i64 s.f0) from rfl); have cx1 := (blk_cell (blk_below BX3.out HB4.out) 1).trans (show _ = some (Value.int .i64 s.f1) from rfl); have cx2 := (blk_cell (blk_below BX3.out HB4.out) 2).trans (show _ = some (Value.string s.f2) from rfl)) | (refine ⟨trivial, ?_⟩; gi_at_call 48; (with_reducible refine (callsIn_wide.2 (span_Out.calls _ _ _ _ _ (HG.out.below (below_step HB3.out HB4.out)) HSO.out)).mono ?_); rintro e W5 ⟨rfl, hb⟩; have HB5 := Aside0.mk hb; clear hb))
        go_roundw
        case rel =>
          refine ⟨done ++ [s], r, wrap64 (i + inS s), wrap64 (o + outS s), rfl, rfl, by rw [List.length_append, List.length_singleton]; go_num, ⟨by rw [HL.out]; simp⟩, ⟨pre ++ [⟨s, i, o, hso⟩], by rw [E1.out, stepsL, dif_pos hso]; simp, by rw [List.length_append, List.length_append, E2.out]; rfl, abides_more HJ.out (abides_more HJ.out J3.out HB4.out) HB5.out⟩, ⟨below_step (below_step HB3.out HB4.out) HB5.out⟩, ⟨?_⟩⟩
          exact Nat.le_trans SZ3.out (Nat.le_trans HB4.out.size HB5.out.size)
        case measure => simp [intOf]; omega
      · gi_wp2
        refine bodyPost_ret (results_none rfl _ _ _) rfl ?_
        exact ⟨⟨_, rfl⟩, .inr ⟨_, ⟨stepsL r (wrap64 (i + inS s)) (wrap64 (o + outS s)), by rw [E1.out, stepsL.eq_2, dif_pos hso]; simp⟩, hJx3⟩⟩
def whereS (gap : Int) : List St → Int → Int
  | [], a => a
  | x :: r, a => if x.i > gap then a else whereS gap r (if x.s.f0 = 1 then wrap64 (x.o + mn x.s.f1 (wrap64 (gap - x.i))) else if x.s.f0 = 2 then wrap64 (x.o + outS x.s) else x.o)
def leastS (gap : Int) : List St → Int
  | [] => 0
  | x :: r => if wrap64 (x.o + outS x.s) < gap then leastS gap r else if x.s.f0 = 1 then wrap64 (x.i + mx (wrap64 (gap - x.o)) 0) else x.i
def place_Where.f (k : Nat) (l : List S51) (gap : Int) : Option (Int × Int) :=
  if stepsOk l = true then (op_May.f k l).bind fun e => if e = 0 then (if gap < 0 then some (0, 6) else (op_In.f k l).bind fun n => if gap > n then some (0, 6) else some (whereS gap (stepsL l 0 0) 0, 0)) else some (0, e) else none
def place_Least.f (k : Nat) (l : List S51) (gap : Int) : Option (Int × Int) :=
  if stepsOk l = true then (op_May.f k l).bind fun e => if e = 0 then (if gap < 0 then some (0, 6) else (op_Out.f k l).bind fun n => if gap > n then some (0, 6) else some (leastS gap (stepsL l 0 0), 0)) else some (0, e) else none
theorem place_Where.mono (l : List S51) (gap : Int) (k : Nat) : LeO (place_Where.f k l gap) (place_Where.f (k + 1) l gap) := by
  unfold place_Where.f
  split
  · refine LeO.bind (op_May.mono _ _) (fun e => ?_)
    split
    · split
      · exact LeO.refl _
      · exact LeO.bind (op_In.mono _ _) (fun n => LeO.refl _)
    · exact LeO.refl _
  · exact LeO.refl _
theorem place_Least.mono (l : List S51) (gap : Int) (k : Nat) : LeO (place_Least.f k l gap) (place_Least.f (k + 1) l gap) := by
  unfold place_Least.f
  split
  · refine LeO.bind (op_May.mono _ _) (fun e => ?_)
    split
    · split
      · exact LeO.refl _
      · exact LeO.bind (op_Out.mono _ _) (fun n => LeO.refl _)
    · exact LeO.refl _
  · exact LeO.refl _
theorem steps.calls (A0 : Option Addr) (n c0 : Nat) (w : World) :
    Calls Tryd.prog 49 #[.slice A0 n c0] w fun e w' => e = .returned (.func (.func 67) #[] #[.pointer (some ⟨w.heap.size, 0, none⟩)]) ∧ w' = w.alloc (.cells #[.slice A0 n c0] 22) := by
  refine (callsIn_wide (n := 0)).1 ?_
  refine callsIn_of_wp Tryd.func49 rfl trivial ?_ rfl
  simp only [Tryd.ntmps49, List.size_toArray, List.length_cons, List.length_nil, Nat.reduceAdd, Nat.reduceSub, Array.replicate_succ, Array.replicate_zero, List.push_toArray, List.append_toArray, List.nil_append, List.cons_append]
  gi_wp2
  go_ret
  exact ⟨rfl, rfl⟩
set_option maxHeartbeats 4000000 in
theorem place_Where_bad (k : Nat) (A0 : Option Addr) (c0 : Nat) (l0 : List S51) (a1 e : Int) (he : e ≠ 0) (w : World) (hG : Glob w) (hr0 : Kd.C k51 w A0 l0.length l0) (hc0 : l0.length ≤ c0) (h : op_May.f k l0 = some e) :
    Calls Tryd.prog 25 #[.slice A0 l0.length c0, .int .i64 a1] w fun e2 w' => e2 = .returned (.tuple #[.int .i64 0, .int .i64 e]) ∧ Below w.heap.size w w' := by
  have HG := Aside0.mk hG
  have HR0 := Aside0.mk hr0
  have HC0 := Aside0.mk hc0
  have H := Aside0.mk h
  have d0 : (e != 0) = true := by simp [he]
  clear hG hr0 hc0 h he
  go_enter Tryd.func25, Tryd.ntmps25
  go_wp2_with ((go_at_call 19; (with_reducible refine (op_May.calls k _ _ l0 e _ (HG.out.below (below_alloc (Below.refl _ _) _)) (Kd.C_alloc HR0.out _) HC0.out H.out).mono ?_); rintro e2 w1 ⟨rfl, hb⟩; have HB1 := Aside0.mk hb; clear hb))
  go_ret2
  exact ⟨rfl, below_step (below_alloc (Below.refl _ _) _) HB1.out⟩
set_option maxHeartbeats 4000000 in
theorem place_Where_low (k : Nat) (A0 : Option Addr) (c0 : Nat) (l0 : List S51) (a1 : Int) (ha : a1 < 0) (w : World) (hG : Glob w) (hr0 : Kd.C k51 w A0 l0.length l0) (hc0 : l0.length ≤ c0) (h : op_May.f k l0 = some 0) :
    Calls Tryd.prog 25 #[.slice A0 l0.length c0, .int .i64 a1] w fun e2 w' => e2 = .returned (.tuple #[.int .i64 0, .int .i64 6]) ∧ Below w.heap.size w w' := by
  have HG := Aside0.mk hG
  have HR0 := Aside0.mk hr0
  have HC0 := Aside0.mk hc0
  have H := Aside0.mk h
  have d0 : decide (a1 < 0) = true := decide_eq_true ha
  clear hG hr0 hc0 h ha
  go_enter Tryd.func25, Tryd.ntmps25
  go_wp2_with ((go_at_call 19; (with_reducible refine (op_May.calls k _ _ l0 0 _ (HG.out.below (below_alloc (Below.refl _ _) _)) (Kd.C_alloc HR0.out _) HC0.out H.out).mono ?_); rintro e2 w1 ⟨rfl, hb⟩; have HB1 := Aside0.mk hb; have cx := (blk_cell (blk_below (blk_new w _) hb) 0).trans (show _ = some (Value.int .i64 a1) from rfl); clear hb))
  go_region
  go_wp2
  go_ret2
  exact ⟨rfl, by repeat (first | exact below_step (below_alloc (Below.refl _ _) _) HB1.out | apply pw_below_drewN | apply below_drew1)⟩
set_option maxHeartbeats 4000000 in
theorem place_Where_high (k : Nat) (A0 : Option Addr) (c0 : Nat) (l0 : List S51) (a1 n : Int) (ha : 0 ≤ a1) (hn : n < a1) (w : World) (hG : Glob w) (hr0 : Kd.C k51 w A0 l0.length l0) (hc0 : l0.length ≤ c0) (h : op_May.f k l0 = some 0) (h2 : op_In.f k l0 = some n) :
    Calls Tryd.prog 25 #[.slice A0 l0.length c0, .int .i64 a1] w fun e2 w' => e2 = .returned (.tuple #[.int .i64 0, .int .i64 6]) ∧ Below w.heap.size w w' := by
  have HG := Aside0.mk hG
  have HR0 := Aside0.mk hr0
  have HC0 := Aside0.mk hc0
  have H := Aside0.mk h
  have H2 := Aside0.mk h2
  have d0 : decide (a1 < 0) = false := decide_eq_false (by omega)
  have d1 : decide (n < a1) = true := decide_eq_true hn
  clear hG hr0 hc0 h h2 ha hn
  go_enter Tryd.func25, Tryd.ntmps25
  go_wp2_with ((go_at_call 19; (with_reducible refine (op_May.calls k _ _ l0 0 _ (HG.out.below (below_alloc (Below.refl _ _) _)) (Kd.C_alloc HR0.out _) HC0.out H.out).mono ?_); rintro e2 w1 ⟨rfl, hb⟩; have HB1 := Aside0.mk hb; have cx := (blk_cell (blk_below (blk_new w _) hb) 0).trans (show _ = some (Value.int .i64 a1) from rfl); clear hb))
  have HBD := Aside0.mk (below_drew1 (below_step (below_alloc (Below.refl _ _) _) HB1.out))
  have BXD : Aside0 (w1.drew.heap[w.heap.size]? = some (.cells #[.int .i64 a1] 3 (0, 0))) := ⟨blk_drew (blk_below (blk_new w _) HB1.out)⟩
  go_region_with (first | (go_at_call 20; (with_reducible refine (op_In.calls k _ _ l0 n _ (HG.out.below HBD.out) (Kd.C_below HR0.out HBD.out) HC0.out H2.out).mono ?_); rintro e3 w2 ⟨rfl, hb⟩; have HB2 := Aside0.mk hb; have cx2 := (blk_cell (blk_below BXD.out hb) 0).trans (show _ = some (Value.int .i64 a1) from rfl); clear hb))
  all_goals (go_wp2; go_ret2; exact ⟨rfl, below_step HBD.out HB2.out⟩)
theorem keepsFrom_below {B : Nat} {W W' : World} (h : Below W.heap.size W W') : KeepsFrom B W W' := ⟨h.size, fun k o _ hk _ => (h.block k (Array.getElem?_eq_some_iff.1 hk).1).trans hk⟩
theorem steps_stops (n : Nat) (hn : 1 ≤ n) (Bs m : Nat) (A0 : Option Addr) (c0 : Nat) (l0 : List S51) (w W0 : World) (hG : Glob w) (hr0 : Kd.C k51 w A0 l0.length l0) (hok : stepsOk l0 = true) (hB0 : Below w.heap.size w W0) (hm : m ≤ W0.heap.size) (hbs : Bs < W0.heap.size)
    (hBs : W0.cell? ⟨Bs, 0, none⟩ = some (.slice A0 l0.length c0)) :
    SeqStopsK Fence.wide n Tryd.prog 67 #[.pointer (some ⟨Bs, 0, none⟩)] (fun x : St => #[encSt x]) (KpS w.heap.size m) (fun ys => ys = stepsL l0 0 0) (fun pre => pre <+: stepsL l0 0 0) (l0.length + 1) W0 := fun l J Jx W hW hJ _ hY h0 =>
  steps1_in n l Bs w.heap.size m hn A0 c0 l0 w rfl hG hr0 hok J Jx hY W hJ (Nat.le_trans hm hW.size) (below_step hB0 hW) ((hW.cell (p := ⟨Bs, 0, none⟩) hbs).trans hBs) h0
theorem whereS_snoc (gap : Int) : ∀ (pre : List St) (x : St) (a : Int), (∀ y ∈ pre, y.i ≤ gap) → whereS gap (pre ++ [x]) a = if x.i > gap then whereS gap pre a else (if x.s.f0 = 1 then wrap64 (x.o + mn x.s.f1 (wrap64 (gap - x.i))) else if x.s.f0 = 2 then wrap64 (x.o + outS x.s) else x.o)
  | [], x, a, _ => by simp [whereS]
  | y :: pre, x, a, h => by
    rw [List.cons_append, whereS, if_neg (Int.not_lt.2 (h y (by simp))), whereS_snoc gap pre x _ (fun z hz => h z (by simp [hz])), whereS, if_neg (Int.not_lt.2 (h y (by simp)))]
theorem whereS_stop (gap : Int) : ∀ (pre : List St) (x : St) (r : List St) (a : Int), (∀ y ∈ pre, y.i ≤ gap) → x.i > gap → whereS gap (pre ++ x :: r) a = whereS gap pre a
  | [], x, r, a, _, hx => by
    show (if x.i > gap then a else _) = a
    rw [if_pos hx]
  | y :: pre, x, r, a, h, hx => by
    rw [List.cons_append, whereS, if_neg (Int.not_lt.2 (h y (by simp))), whereS_stop gap pre x r _ (fun z hz => h z (by simp [hz])) hx]
    conv => rhs; rw [whereS, if_neg (Int.not_lt.2 (h y (by simp)))]
def NoPanic (Q : Exit → Act → World → Prop) : Exit → Act → World → Prop
  | .panic _, _, _ => False
  | .normal, a, w => Q .normal a w
  | .ret, a, w => Q .ret a w
  | .exit i, a, w => Q (.exit i) a w
  | .goto t, a, w => Q (.goto t) a w
  | .outgrown, a, w => Q .outgrown a w
theorem wp_quiet {F : Fence} {n : Nat} {c : Code} {Q : Exit → Act → World → Prop} {a : Act} {w : World} (h : c.wpIn F n Tryd.prog (NoPanic Q) a w) : c.wpIn F n Tryd.prog Q a w :=
  wpIn_mono h (fun e a w hq => by cases e <;> first | exact hq | exact hq.elim)
theorem box_below {W W' : World} {B : Nat} {t : TypeId} {v : Value} (h : Boxed W B t v) (hb : Below W.heap.size W W') : Boxed W' B t v := blk_below h hb
def Boxed5 (W : World) (B : Nat) (x : St) : Prop := W.heap[B]? = some (.cells #[.int .i64 x.s.f0, .int .i64 x.s.f1, .string x.s.f2, .int .i64 x.i, .int .i64 x.o] 70 (0, 0))
theorem boxed5_own {β : Type} (B : Nat) (x : St) : Own (fun (_ : β) W => Boxed5 W B x) := fun s X Y row hs hg hrow =>
  (hg.block B (Array.getElem?_eq_some_iff.1 hs).1 (fun e' => by obtain ⟨o, ho, hc⟩ := hrow B e'.symm; rw [show X.heap[B]? = _ from hs] at ho; cases ho; cases hc)).trans hs
def WhI (w : World) (bg ba : Nat) (gap : Int) (pre : List St) (W : World) : Prop :=
  ((Boxed W bg 3 (.int .i64 gap) ∧ Boxed W ba 3 (.int .i64 (whereS gap pre 0))) ∧ (∀ y ∈ pre, y.i ≤ gap)) ∧ Below w.heap.size w W
def WhX (w : World) (ba : Nat) (gap : Int) (c : Code) (pre : List St) (W : World) : Prop :=
  (c = .exit 0 ∧ ∃ ini x, pre = ini ++ [x] ∧ gap < x.i ∧ (∀ y ∈ ini, y.i ≤ gap) ∧ Boxed W ba 3 (.int .i64 (whereS gap ini 0))) ∧ Below w.heap.size w W
theorem WhI.own (w : World) (bg ba : Nat) (gap : Int) {B : Nat} (hB : w.heap.size ≤ B) : OwnFrom B (WhI w bg ba gap) :=
  OwnFrom.and (OwnFrom.and (OwnFrom.and (Own.from (boxed_own _ _ (fun _ => .int .i64 gap)) _) (Own.from (boxed_own _ _ (fun pre => .int .i64 (whereS gap pre 0))) _)) (ownFrom_pure _ _)) (ownFrom_below (Nat.le_refl _) hB)
theorem WhX.own (w : World) (ba : Nat) (gap : Int) (c : Code) {B : Nat} (hB : w.heap.size ≤ B) : OwnFrom B (WhX w ba gap c) := fun pre X Y row hs hg hr => by
  obtain ⟨⟨hc, ini, x, e1, e2, e3, b2⟩, hb⟩ := hs
  exact ⟨⟨hc, ini, x, e1, e2, e3, boxed_own ba 3 (fun (_ : Unit) => Value.int .i64 (whereS gap ini 0)) () X Y row b2 hg (fun r e => (hr r e).2)⟩, ownFrom_below (β := Unit) (Nat.le_refl _) hB () X Y row hb hg hr⟩
set_option maxRecDepth 100000 in
set_option maxHeartbeats 8000000 in
theorem place_Where_main (k : Nat) (A0 : Option Addr) (c0 : Nat) (l0 : List S51) (a1 n : Int) (ha : 0 ≤ a1) (hn : a1 ≤ n) (w : World) (hG : Glob w) (hr0 : Kd.C k51 w A0 l0.length l0) (hc0 : l0.length ≤ c0) (hok : stepsOk l0 = true) (h : op_May.f k l0 = some 0) (h2 : op_In.f k l0 = some n) :
    Calls Tryd.prog 25 #[.slice A0 l0.length c0, .int .i64 a1] w fun e2 w' => e2 = .returned (.tuple #[.int .i64 (whereS a1 (stepsL l0 0 0) 0), .int .i64 0]) ∧ Below w.heap.size w w' := by
  have HG := Aside0.mk hG
  have HR0 := Aside0.mk hr0
  have HC0 := Aside0.mk hc0
  have H := Aside0.mk h
  have H2 := Aside0.mk h2
  have HOK := Aside0.mk hok
  have d0 : decide (a1 < 0) = false := decide_eq_false (by omega)
  have d1 : decide (n < a1) = false := decide_eq_false (by omega)
  clear hG hr0 hc0 h h2 ha hn hok
  refine (callsIn_wide (n := 6)).1 ?_
  refine callsIn_of_wp_marks Tryd.func25 rfl trivial ?_ rfl
  refine wp_quiet (wpIn_wide.2 ?_)
  simp only [Tryd.ntmps25, List.size_toArray, List.length_cons, List.length_nil, Nat.reduceAdd, Nat.reduceSub, Array.replicate_succ, Array.replicate_zero, List.push_toArray, List.append_toArray, List.nil_append, List.cons_append]
  go_wp2_with ((go_at_call 19; (with_reducible refine (op_May.calls k _ _ l0 0 _ (HG.out.below (below_alloc (Below.refl _ _) _)) (Kd.C_alloc HR0.out _) HC0.out H.out).mono ?_); rintro e2 w1 ⟨rfl, hb⟩; have HB1 := Aside0.mk hb; have cx := (blk_cell (blk_below (blk_new w _) hb) 0).trans (show _ = some (Value.int .i64 a1) from rfl); clear hb))
  have HBD := Aside0.mk (below_drew1 (below_step (below_alloc (Below.refl _ _) _) HB1.out))
  have BXD : Aside0 (w1.drew.heap[w.heap.size]? = some (.cells #[.int .i64 a1] 3 (0, 0))) := ⟨blk_drew (blk_below (blk_new w _) HB1.out)⟩
  go_region_with (first | (go_at_call 20; (with_reducible refine (op_In.calls k _ _ l0 n _ (HG.out.below HBD.out) (Kd.C_below HR0.out HBD.out) HC0.out H2.out).mono ?_); rintro e3 w2 ⟨rfl, hb⟩; have HB2 := Aside0.mk hb; have cx2 := (blk_cell (blk_below BXD.out hb) 0).trans (show _ = some (Value.int .i64 a1) from rfl); clear hb))
  all_goals
    go_wp2_with (go_at_call 49; (with_reducible refine (steps.calls _ _ _ _).mono ?_); rintro e4 w4 ⟨rfl, rfl⟩)
    have HB3 := Aside0.mk (below_step HBD.out HB2.out)
    have BG2 : Aside0 (Boxed w2 w.heap.size 3 (.int .i64 a1)) := ⟨blk_below BXD.out HB2.out⟩
    have hsz : ((w2.alloc (.cells #[.int .i64 0] 3)).alloc (.cells #[.slice A0 l0.length c0] 22)).heap.size = w2.heap.size + 2 := by simp
    have BA2 := Aside0.mk ((Boxed.new w2 3 (.int .i64 0)).alloc (.cells #[.slice A0 l0.length c0] 22))
    have BG3 := Aside0.mk ((BG2.out.alloc (.cells #[.int .i64 0] 3)).alloc (.cells #[.slice A0 l0.length c0] 22))
    have BS3 := Boxed.new (w2.alloc (.cells #[.int .i64 0] 3)) 22 (.slice A0 l0.length c0)
    rw [World.size_alloc] at BS3
    have HB4 := Aside0.mk (below_alloc (below_alloc HB3.out (.cells #[.int .i64 0] 3)) (.cells #[.slice A0 l0.length c0] 22))
    have hgs := BG2.out.lt
    have hws := HB3.out.size
    obtain ⟨W0, hW0⟩ : ∃ W0, (w2.alloc (.cells #[.int .i64 0] 3)).alloc (.cells #[.slice A0 l0.length c0] 22) = W0 := ⟨_, rfl⟩
    rw [hW0] at BA2 BG3 BS3 HB4 hsz ⊢
    clear hW0 cx cx2 d0 d1
    refine (wpIn_wide (n := 6)).1 ?_
    refine wpIn_rangeFunc_ownH rfl (by omega) (gf := 67) (lb := #[.pointer (some ⟨w2.heap.size + 1, 0, none⟩)]) rfl trivial (enters_of Tryd.func67 (by kernel_rfl) rfl)
      (steps_stops 5 (by omega) (w2.heap.size + 1) (w2.heap.size + 2) A0 c0 l0 w W0 HG.out HR0.out HOK.out HB4.out (by omega) (by omega) BS3.cell) (fun h k => h.trans k) (KpS.put (by omega)) (Below.refl _ _) (fun _ => rfl)
      (WhI w w.heap.size w2.heap.size a1) (WhX w w2.heap.size a1) (WhI.own _ _ _ _ (by omega)) (fun c => WhX.own _ _ _ c (by omega)) ⟨⟨⟨BG3.out, BA2.out⟩, fun y hy => by cases hy⟩, HB4.out⟩
      (fun x a' W => ∃ Bx, w2.heap.size < Bx ∧ Boxed5 W Bx x ∧ a' = { tmps := #[.slice A0 l0.length c0, .int .i64 a1, undef, .pointer (some ⟨w.heap.size, 0, none⟩), .int .i64 0, .int .i64 0, .int .i64 0, .pointer (some ⟨w2.heap.size, 0, none⟩), .pointer (some ⟨Bx, 0, none⟩),
        .slice A0 l0.length c0, .int .i64 0, .int .i64 0, .bool false, undef, .int .i64 a1, .bool false, .bool false, .int .i64 a1, .slice A0 l0.length c0, .int .i64 n, .bool false, .bool false, .slice A0 l0.length c0, .func (.func 67) #[] #[.pointer (some ⟨w2.heap.size + 1, 0, none⟩)],
        encSt x, undef, undef, undef, undef, undef, undef, undef, undef, undef, undef, undef, undef, undef, undef, undef, undef, undef, undef, undef, undef, undef, undef, undef, undef, undef, undef, undef, undef, undef], defers := [] })
      (fun x a' _ X Y row hs hg hr => by obtain ⟨Bx, h1, h2, h3⟩ := hs; exact ⟨Bx, h1, boxed5_own Bx x () X Y row h2 hg (fun r e => (hr r e).2), h3⟩)
      ?assign ?body ?done ?stop
    case assign =>
      rintro l pre x W K ⟨⟨⟨bG, bA⟩, hP⟩, hB⟩ hK
      dsimp only [encSt] at hK ⊢
      gi_wp2
      exact hK _ _ ((KeepsOthers.alloc _ _).from _) (KpS.more (below_alloc (Below.refl _ _) _) hB.size) ⟨⟨⟨bG.alloc _, bA.alloc _⟩, hP⟩, below_alloc hB _⟩ ⟨W.heap.size, by have := bA.lt; omega, blk_new W _, rfl⟩
    case body =>
      rintro l pre x a' W hl ⟨r, hr⟩ ⟨⟨⟨bG, bA⟩, hP⟩, hB⟩ ⟨Bx, hBx, bX, rfl⟩ hlt
      have BG := Aside0.mk bG
      have BA := Aside0.mk bA
      have BX := Aside0.mk bX
      have PP := Aside0.mk hP
      have HBW := Aside0.mk hB
      have hbs := hB.size
      have cg := bG.cell
      have ca := bA.cell
      have fa := bA.frozen
      have cx0 := (blk_cell bX 0).trans (show _ = some (Value.int .i64 x.s.f0) from rfl)
      have cx1 := (blk_cell bX 1).trans (show _ = some (Value.int .i64 x.s.f1) from rfl)
      have cx2 := (blk_cell bX 2).trans (show _ = some (Value.string x.s.f2) from rfl)
      have cx3 := (blk_cell bX 3).trans (show _ = some (Value.int .i64 x.i) from rfl)
      have cx4 := (blk_cell bX 4).trans (show _ = some (Value.int .i64 x.o) from rfl)
      clear bG bA bX hP hB hr hlt
      dsimp only [encSt]
      by_cases c1 : x.i > a1
      · have d1 : decide (a1 < x.i) = true := decide_eq_true c1
        have C1 := Aside0.mk c1
        clear c1
        gi_wp2
        exact ⟨KeepsFrom.refl _ _, ⟨⟨rfl, pre, x, rfl, C1.out, PP.out, BA.out⟩, HBW.out⟩⟩
      · have d1 : decide (a1 < x.i) = false := decide_eq_false c1
        have P2 : Aside0 (∀ y ∈ pre ++ [x], y.i ≤ a1) := ⟨fun y hy => (List.mem_append.1 hy).elim (PP.out y) (fun e => by simp at e; subst e; exact Int.not_lt.1 c1)⟩
        have SN := Aside0.mk (whereS_snoc a1 pre x 0 PP.out)
        have C1 := Aside0.mk (Int.not_lt.1 c1)
        have BA1 := Aside0.mk (BA.out.set (.int .i64 x.o))
        have ca1 := BA1.out.cell
        have fa1 := BA1.out.frozen
        have BG1 := Aside0.mk (BG.out.other (B' := w2.heap.size) (by omega) (.int .i64 x.o))
        have cg1 := BG1.out.cell
        have BX1 : Aside0 (Boxed5 (W.setCell ⟨w2.heap.size, 0, none⟩ (.int .i64 x.o)) Bx x) := ⟨(Below.heap_setCell W ⟨w2.heap.size, 0, none⟩ _ Bx (by show Bx ≠ w2.heap.size; omega)).trans BX.out⟩
        have cy0 := (blk_cell BX1.out 0).trans (show _ = some (Value.int .i64 x.s.f0) from rfl)
        have cy1 := (blk_cell BX1.out 1).trans (show _ = some (Value.int .i64 x.s.f1) from rfl)
        have cy2 := (blk_cell BX1.out 2).trans (show _ = some (Value.string x.s.f2) from rfl)
        have cy3 := (blk_cell BX1.out 3).trans (show _ = some (Value.int .i64 x.i) from rfl)
        have cy4 := (blk_cell BX1.out 4).trans (show _ = some (Value.int .i64 x.o) from rfl)
        clear c1
        by_cases c2 : x.s.f0 = 1
        · have d2 : (x.s.f0 == 1) = true := by simp [c2]
          have C2 := Aside0.mk c2
          clear c2
          have fin : Aside0 (∀ z, mn x.s.f1 (wrap64 (a1 - x.i)) = z → ownPostG (w2.heap.size + 2) (KpS w.heap.size (w2.heap.size + 2)) (WhI w w.heap.size w2.heap.size a1) (WhX w w2.heap.size a1) (pre ++ [x]) W Exit.normal { tmps := #[], defers := [] } ((W.setCell ⟨w2.heap.size, 0, none⟩ (.int .i64 x.o)).setCell ⟨w2.heap.size, 0, none⟩ (.int .i64 (wrap64 (x.o + z))))) := ⟨by
            rintro z rfl
            refine ⟨((KeepsOthers.setCell _ _ _).trans (KeepsOthers.setCell _ _ _)).from _, (KpS.set _ _ _ (by omega) (by omega)).trans (KpS.set _ _ _ (by omega) (by omega)), ⟨⟨⟨BG1.out.other (by omega) _, ?_⟩, P2.out⟩, (HBW.out.setCell (p := ⟨w2.heap.size, 0, none⟩) (by show w.heap.size ≤ w2.heap.size; omega) _).setCell (p := ⟨w2.heap.size, 0, none⟩) (by show w.heap.size ≤ w2.heap.size; omega) _⟩⟩
            rw [SN.out, if_neg (Int.not_lt.2 C1.out), if_pos C2.out]
            exact BA1.out.set _⟩
          gi_wp2
          · exact fin.out _ (by unfold mn; split <;> omega)
          · exact fin.out _ (by unfold mn; split <;> omega)
        · have d2 : (x.s.f0 == 1) = false := by simp [c2]
          have C2 := Aside0.mk c2
          clear c2
          by_cases c3 : x.s.f0 = 2
          · have d3 : (x.s.f0 == 2) = true := by simp [c3]
            have C3 := Aside0.mk c3
            clear c3
            have hmix : Tryd.prog.follows .mixedOrders = true := by kernel_rfl
            have HXO := Aside0.mk (some_out x.h)
            have hx2 : 1 ≤ 6 - 1 - 1 := by decide
            have BAD : Aside0 (Boxed ((W.setCell ⟨w2.heap.size, 0, none⟩ (.int .i64 x.o)).drew) w2.heap.size 3 (.int .i64 x.o)) := ⟨blk_drew BA1.out⟩
            have BGD : Aside0 (Boxed ((W.setCell ⟨w2.heap.size, 0, none⟩ (.int .i64 x.o)).drew) w.heap.size 3 (.int .i64 a1)) := ⟨blk_drew BG1.out⟩
            have HBD1 : Aside0 (Below w.heap.size w ((W.setCell ⟨w2.heap.size, 0, none⟩ (.int .i64 x.o)).drew)) := ⟨below_drew1 (HBW.out.setCell (p := ⟨w2.heap.size, 0, none⟩) (by show w.heap.size ≤ w2.heap.size; omega) _)⟩
            gi_wp2
            gi_region_with_o (refine ⟨trivial, ?_⟩; gi_at_call 48; (with_reducible refine (CallsIn.inRound l (callsIn_wide.2 (span_Out.calls _ _ _ _ _ (HG.out.below HBD1.out) HXO.out))).mono ?_); rintro e5 W3 ⟨rfl, hb⟩; have HB5 := Aside0.mk hb; have BA5 := Aside0.mk (box_below BAD.out hb); have ca5 := BA5.out.cell; have fa5 := BA5.out.frozen; clear hb)
            all_goals
              change KeepsFrom _ _ _ ∧ KpS _ _ _ _ ∧ WhI _ _ _ _ _ _
              have hkp : KpS w.heap.size (w2.heap.size + 2) W W3 := (KpS.set W w2.heap.size (.int .i64 x.o) (by omega) (by omega)).trans (KpS.more (Below.trans (below_drew1 (Below.refl _ _)) HB5.out) HBD1.out.size)
              have hkf : KeepsFrom W0.heap.size W W3 := ((KeepsOthers.setCell W ⟨w2.heap.size, 0, none⟩ (.int .i64 x.o)).from _).trans (keepsFrom_below (Below.trans (below_drew1 (Below.refl _ _)) HB5.out))
              refine ⟨hkf.trans ((KeepsOthers.setCell _ _ _).from _), hkp.trans (KpS.set _ _ _ (by omega) (by omega)), ⟨⟨⟨(box_below BGD.out HB5.out).other (by omega) _, ?_⟩, P2.out⟩, (below_step HBD1.out HB5.out).setCell (p := ⟨w2.heap.size, 0, none⟩) (by show w.heap.size ≤ w2.heap.size; omega) _⟩⟩
              rw [SN.out, if_neg (Int.not_lt.2 C1.out), if_neg C2.out, if_pos C3.out, ← i64_w]
              exact BA5.out.set _
          · have d3 : (x.s.f0 == 2) = false := by simp [c3]
            have C3 := Aside0.mk c3
            clear c3
            gi_wp2
            refine ⟨(KeepsOthers.setCell _ _ _).from _, KpS.set _ _ _ (by omega) (by omega), ⟨⟨⟨BG1.out, ?_⟩, P2.out⟩, HBW.out.setCell (p := ⟨w2.heap.size, 0, none⟩) (by show w.heap.size ≤ w2.heap.size; omega) _⟩⟩
            rw [SN.out, if_neg (Int.not_lt.2 C1.out), if_neg C2.out, if_neg C3.out]
            exact BA1.out
    case done =>
      rintro D zs W hD rfl ⟨⟨⟨bG, bA⟩, hP⟩, hB⟩ hK
      have ca := bA.cell
      have HBW := Aside0.mk hB
      clear bG bA hP hB
      go_wp2
      show bodyPostM _ _ _ _ _ Exit.ret _ _
      refine ⟨by simp, .inl ⟨_, _, rfl, run_takeDeferred hK, ?_⟩⟩
      exact ⟨.tuple #[.int .i64 (whereS a1 (stepsL l0 0 0) 0), .int .i64 0], by simp [results, Tryd.results25, go_sem], rfl, HBW.out.trans (belowK_b (w := w) (Nat.le_refl _) W D _ _ (by omega) hK rfl rfl)⟩
    case stop =>
      rintro D c pre W hD ⟨r, hpre⟩ ⟨⟨rfl, ini, x, rfl, hx, hi, bA⟩, hB⟩ hK
      have ca := bA.cell
      have HBW := Aside0.mk hB
      have HW : Aside0 (whereS a1 (stepsL l0 0 0) 0 = whereS a1 ini 0) := ⟨by rw [← hpre, List.append_assoc]; exact whereS_stop a1 ini x r 0 hi hx⟩
      rw [← HW.out] at ca
      clear bA hi hB hpre
      gi_wp2
      go_wp2
      show bodyPostM _ _ _ _ _ Exit.ret _ _
      refine ⟨by simp, .inl ⟨_, _, rfl, run_takeDeferred hK, ?_⟩⟩
      exact ⟨.tuple #[.int .i64 (whereS a1 (stepsL l0 0 0) 0), .int .i64 0], by simp [results, Tryd.results25, go_sem], rfl, HBW.out.trans (belowK_b (w := w) (Nat.le_refl _) W D _ _ (by omega) hK rfl rfl)⟩
theorem place_Where.calls (k : Nat) (A0 : Option Addr) (c0 : Nat) (l0 : List S51) (a1 r1 r2 : Int) (w : World) (hG : Glob w) (hr0 : Kd.C k51 w A0 l0.length l0) (hc0 : l0.length ≤ c0) (h : place_Where.f k l0 a1 = some (r1, r2)) :
    Calls Tryd.prog 25 #[.slice A0 l0.length c0, .int .i64 a1] w fun e w' => e = .returned (.tuple #[.int .i64 r1, .int .i64 r2]) ∧ Below w.heap.size w w' := by
  unfold place_Where.f at h
  split at h
  · next hok =>
    obtain ⟨e, he, h⟩ := Option.bind_eq_some_iff.1 h
    split at h
    · next h0 =>
      subst h0
      split at h
      · next hlow =>
        obtain ⟨rfl, rfl⟩ : 0 = r1 ∧ 6 = r2 := by simpa using h
        exact place_Where_low k A0 c0 l0 a1 hlow w hG hr0 hc0 he
      · next hlow =>
        obtain ⟨n, hn, h⟩ := Option.bind_eq_some_iff.1 h
        split at h
        · next hhi =>
          obtain ⟨rfl, rfl⟩ : 0 = r1 ∧ 6 = r2 := by simpa using h
          exact place_Where_high k A0 c0 l0 a1 n (by omega) (by omega) w hG hr0 hc0 he hn
        · next hhi =>
          obtain ⟨rfl, rfl⟩ : whereS a1 (stepsL l0 0 0) 0 = r1 ∧ 0 = r2 := by simpa using h
          exact place_Where_main k A0 c0 l0 a1 n (by omega) (by omega) w hG hr0 hc0 hok he hn
    · next h0 =>
      obtain ⟨rfl, rfl⟩ : 0 = r1 ∧ e = r2 := by simpa using h
      exact place_Where_bad k A0 c0 l0 a1 e h0 w hG hr0 hc0 he
  · cases h
end Go.Proofs.YtphbemkdhneklaaDoor.F
end
section
namespace Go.Proofs.YtphbemkdhneklaaDoor.F
open Go.RowKit Go.Proofs.YtphbemkdhneklaaDoorW.PrintWords Go.Proofs.YtphbemkdhneklaaDoorW.PrintLast Go.Proofs.YtphbemkdhneklaaDoorW.PrintMore
set_option linter.unusedVariables false
set_option linter.unusedSimpArgs false
open Go.Shelf
attribute [local go_sem] Oper.semAt_some max2_int min2_int max_two min_two
theorem three_new (w : World) (t1 t2 t3 : TypeId) (v1 v2 v3 : Value) : Boxed (((w.alloc (.cells #[v1] t1)).alloc (.cells #[v2] t2)).alloc (.cells #[v3] t3)) w.heap.size t1 v1 ∧ Boxed (((w.alloc (.cells #[v1] t1)).alloc (.cells #[v2] t2)).alloc (.cells #[v3] t3)) (w.heap.size + 1) t2 v2 ∧
    Boxed (((w.alloc (.cells #[v1] t1)).alloc (.cells #[v2] t2)).alloc (.cells #[v3] t3)) (w.heap.size + 2) t3 v3 ∧ Below w.heap.size w (((w.alloc (.cells #[v1] t1)).alloc (.cells #[v2] t2)).alloc (.cells #[v3] t3)) := by
  refine ⟨((Boxed.new w t1 v1).alloc _).alloc _, ?_, ?_, below_alloc (below_alloc (below_alloc (Below.refl _ _) _) _) _⟩
  · have := (Boxed.new (w.alloc (.cells #[v1] t1)) t2 v2).alloc (.cells #[v3] t3)
    rwa [World.size_alloc] at this
  · have := Boxed.new ((w.alloc (.cells #[v1] t1)).alloc (.cells #[v2] t2)) t3 v3
    rwa [World.size_alloc, World.size_alloc] at this
structure LsB (w : World) (gap v e : Int) (W : World) : Prop where
  g : Boxed W w.heap.size 3 (.int .i64 gap)
  v : Boxed W (w.heap.size + 1) 3 (.int .i64 v)
  e : Boxed W (w.heap.size + 2) 27 (.int .i64 e)
  b : Below w.heap.size w W
theorem LsB.new (w : World) (gap : Int) : LsB w gap 0 0 (((w.alloc (.cells #[.int .i64 gap] 3)).alloc (.cells #[.int .i64 0] 3)).alloc (.cells #[.int .i64 0] 27)) := by
  obtain ⟨h1, h2, h3, h4⟩ := three_new w 3 3 27 (.int .i64 gap) (.int .i64 0) (.int .i64 0)
  exact ⟨h1, h2, h3, h4⟩
theorem LsB.more {w W W' : World} {gap v e : Int} (h : LsB w gap v e W) (hb : Below W.heap.size W W') : LsB w gap v e W' := ⟨box_below h.g hb, box_below h.v hb, box_below h.e hb, below_step h.b hb⟩
theorem LsB.drew {w W : World} {gap v e : Int} (h : LsB w gap v e W) : LsB w gap v e W.drew := ⟨blk_drew h.g, blk_drew h.v, blk_drew h.e, below_drew1 h.b⟩
theorem LsB.setV {w W : World} {gap v e : Int} (h : LsB w gap v e W) (z : Int) : LsB w gap z e (W.setCell ⟨w.heap.size + 1, 0, none⟩ (.int .i64 z)) :=
  ⟨h.g.other (by omega) _, h.v.set _, h.e.other (by omega) _, h.b.setCell (p := ⟨w.heap.size + 1, 0, none⟩) (by show w.heap.size ≤ w.heap.size + 1; omega) _⟩
theorem LsB.setE {w W : World} {gap v e : Int} (h : LsB w gap v e W) (z : Int) : LsB w gap v z (W.setCell ⟨w.heap.size + 2, 0, none⟩ (.int .i64 z)) :=
  ⟨h.g.other (by omega) _, h.v.other (by omega) _, h.e.set _, h.b.setCell (p := ⟨w.heap.size + 2, 0, none⟩) (by show w.heap.size ≤ w.heap.size + 2; omega) _⟩
theorem LsB.cells {w W : World} {gap v e : Int} (h : LsB w gap v e W) : W.cell? ⟨w.heap.size, 0, none⟩ = some (.int .i64 gap) ∧ W.cell? ⟨w.heap.size + 1, 0, none⟩ = some (.int .i64 v) ∧ W.cell? ⟨w.heap.size + 2, 0, none⟩ = some (.int .i64 e) ∧ W.frozen? ⟨w.heap.size + 1, 0, none⟩ = false ∧ W.frozen? ⟨w.heap.size + 2, 0, none⟩ = false :=
  ⟨h.g.cell, h.v.cell, h.e.cell, h.v.frozen, h.e.frozen⟩
set_option maxHeartbeats 4000000 in
theorem place_Least_bad (k : Nat) (A0 : Option Addr) (c0 : Nat) (l0 : List S51) (a1 e : Int) (he : e ≠ 0) (w : World) (hG : Glob w) (hr0 : Kd.C k51 w A0 l0.length l0) (hc0 : l0.length ≤ c0) (h : op_May.f k l0 = some e) :
    Calls Tryd.prog 27 #[.slice A0 l0.length c0, .int .i64 a1] w fun e2 w' => e2 = .returned (.tuple #[.int .i64 0, .int .i64 e]) ∧ Below w.heap.size w w' := by
  have HG := Aside0.mk hG
  have HR0 := Aside0.mk hr0
  have HC0 := Aside0.mk hc0
  have H := Aside0.mk h
  have d0 : (e != 0) = true := by simp [he]
  have B0 := Aside0.mk (LsB.new w a1)
  clear hG hr0 hc0 h he
  go_enter Tryd.func27, Tryd.ntmps27
  go_wp2_with ((go_at_call 19; (with_reducible refine (op_May.calls k _ _ l0 e _ (HG.out.below B0.out.b) (Kd.C_below HR0.out B0.out.b) HC0.out H.out).mono ?_); rintro e2 w1 ⟨rfl, hb⟩; have B1 := Aside0.mk (B0.out.more hb); obtain ⟨q0, q1, q2, q3, q4⟩ := B1.out.cells; clear hb))
  have B2 := Aside0.mk ((B1.out.setV 0).setE e)
  obtain ⟨p0, p1, p2, p3, p4⟩ := B2.out.cells
  exact bodyPost_ret (v := .tuple #[.int .i64 0, .int .i64 e]) (by simp [results, Tryd.results27, Tryd.f27, go_sem, p1, p2]) rfl ⟨rfl, B2.out.b⟩
set_option maxHeartbeats 4000000 in
theorem place_Least_low (k : Nat) (A0 : Option Addr) (c0 : Nat) (l0 : List S51) (a1 : Int) (ha : a1 < 0) (w : World) (hG : Glob w) (hr0 : Kd.C k51 w A0 l0.length l0) (hc0 : l0.length ≤ c0) (h : op_May.f k l0 = some 0) :
    Calls Tryd.prog 27 #[.slice A0 l0.length c0, .int .i64 a1] w fun e2 w' => e2 = .returned (.tuple #[.int .i64 0, .int .i64 6]) ∧ Below w.heap.size w w' := by
  have HG := Aside0.mk hG
  have HR0 := Aside0.mk hr0
  have HC0 := Aside0.mk hc0
  have H := Aside0.mk h
  have d0 : decide (a1 < 0) = true := decide_eq_true ha
  have B0 := Aside0.mk (LsB.new w a1)
  clear hG hr0 hc0 h ha
  go_enter Tryd.func27, Tryd.ntmps27
  go_wp2_with ((go_at_call 19; (with_reducible refine (op_May.calls k _ _ l0 0 _ (HG.out.below B0.out.b) (Kd.C_below HR0.out B0.out.b) HC0.out H.out).mono ?_); rintro e2 w1 ⟨rfl, hb⟩; have B1 := Aside0.mk (B0.out.more hb); obtain ⟨q0, q1, q2, q3, q4⟩ := B1.out.cells; clear hb))
  go_region
  go_wp2
  have B2 := Aside0.mk (((B1.out.setV 0).setE 6).drew)
  obtain ⟨p0, p1, p2, p3, p4⟩ := B2.out.cells
  exact bodyPost_ret (v := .tuple #[.int .i64 0, .int .i64 6]) (by simp [results, Tryd.results27, Tryd.f27, go_sem, p1, p2]) rfl ⟨rfl, B2.out.b⟩
set_option maxHeartbeats 4000000 in
theorem place_Least_high (k : Nat) (A0 : Option Addr) (c0 : Nat) (l0 : List S51) (a1 n : Int) (ha : 0 ≤ a1) (hn : n < a1) (w : World) (hG : Glob w) (hr0 : Kd.C k51 w A0 l0.length l0) (hc0 : l0.length ≤ c0) (h : op_May.f k l0 = some 0) (h2 : op_Out.f k l0 = some n) :
    Calls Tryd.prog 27 #[.slice A0 l0.length c0, .int .i64 a1] w fun e2 w' => e2 = .returned (.tuple #[.int .i64 0, .int .i64 6]) ∧ Below w.heap.size w w' := by
  have HG := Aside0.mk hG
  have HR0 := Aside0.mk hr0
  have HC0 := Aside0.mk hc0
  have H := Aside0.mk h
  have H2 := Aside0.mk h2
  have d0 : decide (a1 < 0) = false := decide_eq_false (by omega)
  have d1 : decide (n < a1) = true := decide_eq_true hn
  have B0 := Aside0.mk (LsB.new w a1)
  clear hG hr0 hc0 h h2 ha hn
  go_enter Tryd.func27, Tryd.ntmps27
  go_wp2_with ((go_at_call 19; (with_reducible refine (op_May.calls k _ _ l0 0 _ (HG.out.below B0.out.b) (Kd.C_below HR0.out B0.out.b) HC0.out H.out).mono ?_); rintro e2 w1 ⟨rfl, hb⟩; have B1 := Aside0.mk (B0.out.more hb); obtain ⟨q0, q1, q2, q3, q4⟩ := B1.out.cells; clear hb))
  have BD := Aside0.mk B1.out.drew
  go_region_with (first | (go_at_call 21; (with_reducible refine (op_Out.calls k _ _ l0 n _ (HG.out.below BD.out.b) (Kd.C_below HR0.out BD.out.b) HC0.out H2.out).mono ?_); rintro e3 w2 ⟨rfl, hb⟩; have B2 := Aside0.mk (BD.out.more hb); obtain ⟨r0, r1, r2, r3, r4⟩ := B2.out.cells; clear hb))
  all_goals
    go_wp2
    have B3 := Aside0.mk ((B2.out.setV 0).setE 6)
    obtain ⟨p0, p1, p2, p3, p4⟩ := B3.out.cells
    exact bodyPost_ret (v := .tuple #[.int .i64 0, .int .i64 6]) (by simp [results, Tryd.results27, Tryd.f27, go_sem, p1, p2]) rfl ⟨rfl, B3.out.b⟩
theorem leastS_stop (gap : Int) : ∀ (pre : List St) (x : St) (r : List St), (∀ y ∈ pre, wrap64 (y.o + outS y.s) < gap) → ¬ wrap64 (x.o + outS x.s) < gap → leastS gap (pre ++ x :: r) = if x.s.f0 = 1 then wrap64 (x.i + mx (wrap64 (gap - x.o)) 0) else x.i
  | [], x, r, _, hx => by
    show (if wrap64 (x.o + outS x.s) < gap then _ else _) = _
    rw [if_neg hx]
  | y :: pre, x, r, h, hx => by
    show (if wrap64 (y.o + outS y.s) < gap then _ else _) = _
    rw [if_pos (h y (by simp))]
    exact leastS_stop gap pre x r (fun z hz => h z (by simp [hz])) hx
theorem leastS_all (gap : Int) : ∀ (pre : List St), (∀ y ∈ pre, wrap64 (y.o + outS y.s) < gap) → leastS gap pre = 0
  | [], _ => rfl
  | y :: pre, h => by
    show (if wrap64 (y.o + outS y.s) < gap then _ else _) = _
    rw [if_pos (h y (by simp)), leastS_all gap pre (fun z hz => h z (by simp [hz]))]
def LsI (w : World) (gap : Int) (pre : List St) (W : World) : Prop := LsB w gap 0 0 W ∧ (∀ y ∈ pre, wrap64 (y.o + outS y.s) < gap)
def LsX (w : World) (gap : Int) (c : Code) (pre : List St) (W : World) : Prop := c = .ret ∧ ∃ ini x, pre = ini ++ [x] ∧ (∀ y ∈ ini, wrap64 (y.o + outS y.s) < gap) ∧ ¬ wrap64 (x.o + outS x.s) < gap ∧ LsB w gap (if x.s.f0 = 1 then wrap64 (x.i + mx (wrap64 (gap - x.o)) 0) else x.i) 0 W
theorem LsB.own {β : Type} (w : World) (gap v e : Int) {B : Nat} (hB : w.heap.size ≤ B) : OwnFrom B (fun (_ : β) W => LsB w gap v e W) := fun s X Y row hs hg hr =>
  ⟨boxed_own w.heap.size 3 (fun (_ : Unit) => Value.int .i64 gap) () X Y row hs.g hg (fun r e => (hr r e).2), boxed_own (w.heap.size + 1) 3 (fun (_ : Unit) => Value.int .i64 v) () X Y row hs.v hg (fun r e => (hr r e).2), boxed_own (w.heap.size + 2) 27 (fun (_ : Unit) => Value.int .i64 e) () X Y row hs.e hg (fun r e => (hr r e).2), ownFrom_below (β := Unit) (Nat.le_refl _) hB () X Y row hs.b hg hr⟩
theorem LsI.own (w : World) (gap : Int) {B : Nat} (hB : w.heap.size ≤ B) : OwnFrom B (LsI w gap) := OwnFrom.and (LsB.own w gap 0 0 hB) (ownFrom_pure _ _)
theorem LsX.own (w : World) (gap : Int) (c : Code) {B : Nat} (hB : w.heap.size ≤ B) : OwnFrom B (LsX w gap c) := fun pre X Y row hs hg hr => by
  obtain ⟨hc, ini, x, e1, e2, e3, hb⟩ := hs
  exact ⟨hc, ini, x, e1, e2, e3, LsB.own (β := Unit) w gap _ 0 hB () X Y row hb hg hr⟩
theorem LsB.bounds {w W : World} {gap v e : Int} (h : LsB w gap v e W) : w.heap.size + 2 < W.heap.size := h.e.lt
set_option maxRecDepth 100000 in
set_option maxHeartbeats 8000000 in
theorem place_Least_main (k : Nat) (A0 : Option Addr) (c0 : Nat) (l0 : List S51) (a1 n : Int) (ha : 0 ≤ a1) (hn : a1 ≤ n) (w : World) (hG : Glob w) (hr0 : Kd.C k51 w A0 l0.length l0) (hc0 : l0.length ≤ c0) (hok : stepsOk l0 = true) (h : op_May.f k l0 = some 0) (h2 : op_Out.f k l0 = some n) :
    Calls Tryd.prog 27 #[.slice A0 l0.length c0, .int .i64 a1] w fun e2 w' => e2 = .returned (.tuple #[.int .i64 (leastS a1 (stepsL l0 0 0)), .int .i64 0]) ∧ Below w.heap.size w w' := by
  have HG := Aside0.mk hG
  have HR0 := Aside0.mk hr0
  have HC0 := Aside0.mk hc0
  have H := Aside0.mk h
  have H2 := Aside0.mk h2
  have HOK := Aside0.mk hok
  have d0 : decide (a1 < 0) = false := decide_eq_false (by omega)
  have d1 : decide (n < a1) = false := decide_eq_false (by omega)
  have B0 := Aside0.mk (LsB.new w a1)
  clear hG hr0 hc0 h h2 ha hn hok
  refine (callsIn_wide (n := 6)).1 ?_
  refine callsIn_of_wp_marks Tryd.func27 rfl trivial ?_ rfl
  refine wp_quiet (wpIn_wide.2 ?_)
  simp only [Tryd.ntmps27, List.size_toArray, List.length_cons, List.length_nil, Nat.reduceAdd, Nat.reduceSub, Array.replicate_succ, Array.replicate_zero, List.push_toArray, List.append_toArray, List.nil_append, List.cons_append]
  go_wp2_with ((go_at_call 19; (with_reducible refine (op_May.calls k _ _ l0 0 _ (HG.out.below B0.out.b) (Kd.C_below HR0.out B0.out.b) HC0.out H.out).mono ?_); rintro e2 w1 ⟨rfl, hb⟩; have B1 := Aside0.mk (B0.out.more hb); obtain ⟨q0, q1, q2, q3, q4⟩ := B1.out.cells; clear hb))
  have BD := Aside0.mk B1.out.drew
  rename_i K1 hK1
  have key : ∀ w2 : World, Aside0 (LsB w a1 0 0 w2) → K1
      { tmps := #[.slice A0 l0.length c0, .int .i64 a1, undef, .pointer (some ⟨w.heap.size, 0, none⟩), .pointer (some ⟨w.heap.size + 1, 0, none⟩), .pointer (some ⟨w.heap.size + 1 + 1, 0, none⟩), .int .i64 0, undef,
        .slice A0 l0.length c0, .int .i64 0, .int .i64 0, .bool false, undef, .int .i64 a1, .bool false, .bool false, .int .i64 a1, .slice A0 l0.length c0, .int .i64 n, .bool false, .bool false, undef, undef,
        undef, undef, undef, undef, undef, undef, undef, undef, undef, undef, undef, undef, undef, undef, undef, undef, undef, undef, undef, undef, undef, undef, undef], defers := [] } w2 := by
    intro w2 B2
    refine hK1 _ _ ?_
    clear hK1 K1
    obtain ⟨r0, r1, r2, r3, r4⟩ := B2.out.cells
    go_wp2_with (go_at_call 49; (with_reducible refine (steps.calls _ _ _ _).mono ?_); rintro e4 w4 ⟨rfl, rfl⟩)
    have BS3 := Boxed.new w2 22 (.slice A0 l0.length c0)
    have B3 := Aside0.mk (B2.out.more (below_alloc (Below.refl _ _) (.cells #[.slice A0 l0.length c0] 22)))
    have hsz : (w2.alloc (.cells #[.slice A0 l0.length c0] 22)).heap.size = w2.heap.size + 1 := by simp
    have hgs := B2.out.bounds
    obtain ⟨W0, hW0⟩ : ∃ W0, w2.alloc (.cells #[.slice A0 l0.length c0] 22) = W0 := ⟨_, rfl⟩
    rw [hW0] at BS3 B3 hsz ⊢
    clear hW0 q0 q1 q2 q3 q4 r0 r1 r2 r3 r4 d0 d1
    refine (wpIn_wide (n := 6)).1 ?_
    refine wpIn_rangeFunc_ownH rfl (by omega) (gf := 67) (lb := #[.pointer (some ⟨w2.heap.size, 0, none⟩)]) rfl trivial (enters_of Tryd.func67 (by kernel_rfl) rfl)
      (steps_stops 5 (by omega) w2.heap.size (w2.heap.size + 1) A0 c0 l0 w W0 HG.out HR0.out HOK.out B3.out.b (by omega) (by omega) BS3.cell) (fun h k => h.trans k) (KpS.put (by omega)) (Below.refl _ _) (fun _ => rfl)
      (LsI w a1) (LsX w a1) (LsI.own _ _ (by omega)) (fun c => LsX.own _ _ c (by omega)) ⟨B3.out, fun y hy => by cases hy⟩
      (fun x a' W => ∃ Bx, w.heap.size + 2 < Bx ∧ Boxed5 W Bx x ∧ a' = { tmps := #[.slice A0 l0.length c0, .int .i64 a1, undef, .pointer (some ⟨w.heap.size, 0, none⟩), .pointer (some ⟨w.heap.size + 1, 0, none⟩), .pointer (some ⟨w.heap.size + 1 + 1, 0, none⟩), .int .i64 0, .pointer (some ⟨Bx, 0, none⟩),
        .slice A0 l0.length c0, .int .i64 0, .int .i64 0, .bool false, undef, .int .i64 a1, .bool false, .bool false, .int .i64 a1, .slice A0 l0.length c0, .int .i64 n, .bool false, .bool false, .slice A0 l0.length c0, .func (.func 67) #[] #[.pointer (some ⟨w2.heap.size, 0, none⟩)],
        encSt x, undef, undef, undef, undef, undef, undef, undef, undef, undef, undef, undef, undef, undef, undef, undef, undef, undef, undef, undef, undef, undef, undef], defers := [] })
      (fun x a' _ X Y row hs hg hr => by obtain ⟨Bx, h1, h2, h3⟩ := hs; exact ⟨Bx, h1, boxed5_own Bx x () X Y row h2 hg (fun r e => (hr r e).2), h3⟩)
      ?assign ?body ?done ?stop
    case assign =>
      rintro l pre x W K ⟨hB, hP⟩ hK
      dsimp only [encSt] at hK ⊢
      gi_wp2
      exact hK _ _ ((KeepsOthers.alloc _ _).from _) (KpS.more (below_alloc (Below.refl _ _) _) hB.b.size) ⟨hB.more (below_alloc (Below.refl _ _) _), hP⟩ ⟨W.heap.size, hB.bounds, blk_new W _, rfl⟩
    case body =>
      rintro l pre x a' W hl ⟨r, hr⟩ ⟨hB, hP⟩ ⟨Bx, hBx, bX, rfl⟩ hlt
      have BB := Aside0.mk hB
      have PP := Aside0.mk hP
      have hbs := hB.b.size
      have hmix : Tryd.prog.follows .mixedOrders = true := by kernel_rfl
      have HXO := Aside0.mk (some_out x.h)
      have hx2 : 1 ≤ 6 - 1 - 1 := by decide
      have BBD := Aside0.mk hB.drew
      have BXD : Aside0 (Boxed5 W.drew Bx x) := ⟨blk_drew bX⟩
      obtain ⟨q0, q1, q2, q3, q4⟩ := hB.cells
      have cx0 := (blk_cell bX 0).trans (show _ = some (Value.int .i64 x.s.f0) from rfl)
      have cx1 := (blk_cell bX 1).trans (show _ = some (Value.int .i64 x.s.f1) from rfl)
      have cx2 := (blk_cell bX 2).trans (show _ = some (Value.string x.s.f2) from rfl)
      have cx3 := (blk_cell bX 3).trans (show _ = some (Value.int .i64 x.i) from rfl)
      have cx4 := (blk_cell bX 4).trans (show _ = some (Value.int .i64 x.o) from rfl)
      clear bX hP hB hr hlt
      dsimp only [encSt]
      gi_wp2
      rename_i Ka hKa Kb hKb
      have key : ∀ W3 : World, Aside0 (LsB w a1 0 0 W3) → Aside0 (Boxed5 W3 Bx x) → Aside0 (Below W.drew.heap.size W.drew W3) → ∀ bb : Bool, Aside0 (bb = decide (IntKind.i64.wrap (x.o + outS x.s) < a1)) → Kb
        { tmps := #[.slice A0 l0.length c0, .int .i64 a1, undef, .pointer (some ⟨w.heap.size, 0, none⟩), .pointer (some ⟨w.heap.size + 1, 0, none⟩), .pointer (some ⟨w.heap.size + 1 + 1, 0, none⟩), .int .i64 0, .pointer (some ⟨Bx, 0, none⟩),
        .slice A0 l0.length c0, .int .i64 0, .int .i64 0, .bool false, undef, .int .i64 a1, .bool false, .bool false, .int .i64 a1, .slice A0 l0.length c0, .int .i64 n, .bool false, .bool false, .slice A0 l0.length c0, .func (.func 67) #[] #[.pointer (some ⟨w2.heap.size, 0, none⟩)],
        .agg #[.int .i64 x.s.f0, .int .i64 x.s.f1, .string x.s.f2, .int .i64 x.i, .int .i64 x.o], .pointer (some ⟨Bx, 4, none⟩), .int .i64 x.o, .pointer (some ⟨Bx, 0, none⟩), .agg #[.int .i64 x.s.f0, .int .i64 x.s.f1, .string x.s.f2], .int .i64 (outS x.s), .int .i64 (IntKind.i64.wrap (x.o + outS x.s)), .int .i64 a1, .bool bb,
        undef, undef, undef, undef, undef, undef, undef, undef, undef, undef, undef, undef, undef, undef], defers := [] } W3 := by
        intro W3 B5 BX5 HB5 bb HBB
        refine hKb _ _ ?_
        clear hKb Kb cx0 cx1 cx2 cx3 cx4 q0 q1 q2 q3 q4
        obtain ⟨r0, r1, r2, r3, r4⟩ := B5.out.cells
        have cx0 := (blk_cell BX5.out 0).trans (show _ = some (Value.int .i64 x.s.f0) from rfl)
        have cx3 := (blk_cell BX5.out 3).trans (show _ = some (Value.int .i64 x.i) from rfl)
        have cx4 := (blk_cell BX5.out 4).trans (show _ = some (Value.int .i64 x.o) from rfl)
        have hkp : Aside0 (KpS w.heap.size (w2.heap.size + 1) W W3) := ⟨KpS.more (Below.trans (below_drew1 (Below.refl _ _)) HB5.out) hbs⟩
        have hkf : Aside0 (KeepsFrom W0.heap.size W W3) := ⟨keepsFrom_below (Below.trans (below_drew1 (Below.refl _ _)) HB5.out)⟩
        have fin : Aside0 (¬ wrap64 (x.o + outS x.s) < a1 → ∀ z, (if x.s.f0 = 1 then wrap64 (x.i + mx (wrap64 (a1 - x.o)) 0) else x.i) = z → ownPostG (w2.heap.size + 1) (KpS w.heap.size (w2.heap.size + 1)) (LsI w a1) (LsX w a1) (pre ++ [x]) W Exit.ret { tmps := #[], defers := [] } ((W3.setCell ⟨w.heap.size + 1, 0, none⟩ (.int .i64 z)).setCell ⟨w.heap.size + 1 + 1, 0, none⟩ (.int .i64 0))) := ⟨by
          rintro hc z rfl
          rw [← hsz]
          exact ⟨(hkf.out.trans ((KeepsOthers.setCell _ _ _).from _)).trans ((KeepsOthers.setCell _ _ _).from _), rfl, pre, x, rfl, PP.out, hc, (B5.out.setV _).setE 0⟩⟩
        cases bb with
        | true =>
          have P2 : Aside0 (∀ y ∈ pre ++ [x], wrap64 (y.o + outS y.s) < a1) := ⟨fun y hy => (List.mem_append.1 hy).elim (PP.out y) (fun e => by
            simp at e
            subst e
            have := HBB.out
            rw [i64_w] at this
            exact of_decide_eq_true this.symm)⟩
          gi_wp2
          rw [← hsz]
          exact ⟨hkf.out, by rw [hsz]; exact hkp.out, B5.out, P2.out⟩
        | false =>
          have C1 : Aside0 (¬ wrap64 (x.o + outS x.s) < a1) := ⟨by
            have := HBB.out
            rw [i64_w] at this
            exact of_decide_eq_false this.symm⟩
          have fin2 := Aside0.mk (fin.out C1.out)
          clear fin
          by_cases c2 : x.s.f0 = 1
          · have d2 : (x.s.f0 == 1) = true := by simp [c2]
            have C2 := Aside0.mk c2
            clear c2
            gi_wp2
            · next h => exact fin2.out _ (by rw [if_pos C2.out, mx, if_pos (by first | exact h | omega), Int.add_zero])
            · next h => exact fin2.out _ (by rw [if_pos C2.out, mx, if_neg (by omega)])
          · have d2 : (x.s.f0 == 1) = false := by simp [c2]
            have C2 := Aside0.mk c2
            clear c2
            gi_wp2
            exact fin2.out _ (by rw [if_neg C2.out])
      clear hKb
      gi_region_with_o (refine ⟨trivial, ?_⟩; gi_at_call 48; (with_reducible refine (CallsIn.inRound l (callsIn_wide.2 (span_Out.calls _ _ _ _ _ (HG.out.below BBD.out.b) HXO.out))).mono ?_); rintro e5 W3 ⟨rfl, hb⟩; have HB5 := Aside0.mk hb; have B5 := Aside0.mk (BBD.out.more hb); have BX5 : Aside0 (Boxed5 W3 Bx x) := ⟨blk_below BXD.out hb⟩; obtain ⟨r0, r1, r2, r3, r4⟩ := B5.out.cells; have cz4 := (blk_cell BX5.out 4).trans (show _ = some (Value.int .i64 x.o) from rfl); clear hb)
      all_goals exact key _ B5 BX5 HB5 _ ⟨rfl⟩
    case done =>
      rintro D zs W hD rfl ⟨hB, hP⟩ hK
      have HW : Aside0 (leastS a1 (stepsL l0 0 0) = 0) := ⟨leastS_all a1 _ hP⟩
      have B5 := Aside0.mk hB
      obtain ⟨q0, q1, q2, q3, q4⟩ := hB.cells
      have hd := hB.bounds
      clear hB hP
      go_wp2
      show bodyPostM _ _ _ _ _ Exit.ret _ _
      have B6 := (B5.out.setV 0).setE 0
      have hK' := ((KeepsOthers.setCell W ⟨w.heap.size + 1, 0, none⟩ (.int .i64 0)).trans (KeepsOthers.setCell _ ⟨w.heap.size + 1 + 1, 0, none⟩ (.int .i64 0))).same D _ hK rfl
      have B7 := (LsB.own (β := Unit) w a1 0 0 (B := W0.heap.size) (by omega)).putObj (s := ()) (.deferred none) B6 hD hK' rfl
      obtain ⟨p0, p1, p2, p3, p4⟩ := B7.cells
      refine ⟨by simp, .inl ⟨_, _, rfl, run_takeDeferred hK', ?_⟩⟩
      exact ⟨.tuple #[.int .i64 (leastS a1 (stepsL l0 0 0)), .int .i64 0], by rw [HW.out]; simp [results, Tryd.results27, Tryd.f27, go_sem, p1, p2], rfl, B7.b⟩
    case stop =>
      rintro D c pre W hD ⟨r, hpre⟩ ⟨rfl, ini, x, rfl, hi, hx, hB⟩ hK
      have HW := Aside0.mk (leastS_stop a1 ini x r hi hx)
      have HP := Aside0.mk hpre
      have B5 := Aside0.mk hB
      obtain ⟨q0, q1, q2, q3, q4⟩ := hB.cells
      clear hB hi hx hpre
      gi_wp2
      show bodyPostM _ _ _ _ _ Exit.ret _ _
      have hl := HW.out
      rw [show ini ++ x :: r = stepsL l0 0 0 by rw [← HP.out]; simp] at hl
      rw [← hl] at B5
      have B7 := (LsB.own (β := Unit) w a1 _ 0 (B := W0.heap.size) (by omega)).putObj (s := ()) (.deferred none) B5.out hD hK rfl
      obtain ⟨p0, p1, p2, p3, p4⟩ := B7.cells
      refine ⟨by simp, .inl ⟨_, _, rfl, run_takeDeferred hK, ?_⟩⟩
      exact ⟨.tuple #[.int .i64 (leastS a1 (stepsL l0 0 0)), .int .i64 0], by simp [results, Tryd.results27, Tryd.f27, go_sem, p1, p2], rfl, B7.b⟩
  clear hK1
  go_region_with (first | (go_at_call 21; (with_reducible refine (op_Out.calls k _ _ l0 n _ (HG.out.below BD.out.b) (Kd.C_below HR0.out BD.out.b) HC0.out H2.out).mono ?_); rintro e3 w2 ⟨rfl, hb⟩; have B2 := Aside0.mk (BD.out.more hb); obtain ⟨r0, r1, r2, r3, r4⟩ := B2.out.cells; clear hb))
  all_goals exact key _ B2
theorem place_Least.calls (k : Nat) (A0 : Option Addr) (c0 : Nat) (l0 : List S51) (a1 r1 r2 : Int) (w : World) (hG : Glob w) (hr0 : Kd.C k51 w A0 l0.length l0) (hc0 : l0.length ≤ c0) (h : place_Least.f k l0 a1 = some (r1, r2)) :
    Calls Tryd.prog 27 #[.slice A0 l0.length c0, .int .i64 a1] w fun e w' => e = .returned (.tuple #[.int .i64 r1, .int .i64 r2]) ∧ Below w.heap.size w w' := by
  unfold place_Least.f at h
  split at h
  · next hok =>
    obtain ⟨e, he, h⟩ := Option.bind_eq_some_iff.1 h
    split at h
    · next h0 =>
      subst h0
      split at h
      · next hlow =>
        obtain ⟨rfl, rfl⟩ : 0 = r1 ∧ 6 = r2 := by simpa using h
        exact place_Least_low k A0 c0 l0 a1 hlow w hG hr0 hc0 he
      · next hlow =>
        obtain ⟨n, hn, h⟩ := Option.bind_eq_some_iff.1 h
        split at h
        · next hhi =>
          obtain ⟨rfl, rfl⟩ : 0 = r1 ∧ 6 = r2 := by simpa using h
          exact place_Least_high k A0 c0 l0 a1 n (by omega) (by omega) w hG hr0 hc0 he hn
        · next hhi =>
          obtain ⟨rfl, rfl⟩ : leastS a1 (stepsL l0 0 0) = r1 ∧ 0 = r2 := by simpa using h
          exact place_Least_main k A0 c0 l0 a1 n (by omega) (by omega) w hG hr0 hc0 hok he hn
    · next h0 =>
      obtain ⟨rfl, rfl⟩ : 0 = r1 ∧ e = r2 := by simpa using h
      exact place_Least_bad k A0 c0 l0 a1 e h0 w hG hr0 hc0 he
  · cases h
end Go.Proofs.YtphbemkdhneklaaDoor.F
end
section
namespace Go.Proofs.YtphbemkdhneklaaDoor.F
open Go.RowKit Go.Proofs.YtphbemkdhneklaaDoorW.PrintWords Go.Proofs.YtphbemkdhneklaaDoorW.PrintLast Go.Proofs.YtphbemkdhneklaaDoorW.PrintMore
attribute [local go_sem] max2_int min2_int max_two min_two max_three min_three max_four min_four cell_setCell_isSome
set_option linter.unusedVariables false
set_option linter.unusedSimpArgs false
mutual
def epitomelaw09_ComposeThrough.j0 : Nat → List (S51) → List (S51) → List (S51) → Bool → Option (Bool)
  | 0, _, _, _, _ => none
  | k + 1, x8, x9, x10, x47 => if x47 = true then (some false) else (epitomelaw09_ComposeThrough.l0 k x8 x9 x10 0)
def epitomelaw09_ComposeThrough.l0 : Nat → List (S51) → List (S51) → List (S51) → Int → Option (Bool)
  | 0, _, _, _, _ => none
  | k + 1, x8, x9, x10, x12 => (op_In.f k x8).bind fun t113 => (if x12 ≤ t113 then ((place_Where.f k x8 x12).bind fun bt114 => ((place_Where.f k x9 bt114.1).bind fun bt116 => ((place_Where.f k x10 x12).bind fun bt118 => (if bt114.2 = 0 then (if bt116.2 = 0 then (if bt118.2 = 0 then (if bt116.1 = bt118.1 then (epitomelaw09_ComposeThrough.l0 k x8 x9 x10 (wrap64 (x12 + 1))) else (some false)) else (some false)) else (some false)) else (some false))))) else (epitomelaw09_ComposeThrough.l1 k x8 x9 x10 0))
def epitomelaw09_ComposeThrough.l1 : Nat → List (S51) → List (S51) → List (S51) → Int → Option (Bool)
  | 0, _, _, _, _ => none
  | k + 1, x8, x9, x10, x19 => (op_Out.f k x9).bind fun t120 => (if x19 ≤ t120 then (epitomelaw09_ComposeThrough.j3 k x8 x9 x10 x19 (decide (x19 < 200))) else (epitomelaw09_ComposeThrough.j3 k x8 x9 x10 x19 false))
def epitomelaw09_ComposeThrough.j3 : Nat → List (S51) → List (S51) → List (S51) → Int → Bool → Option (Bool)
  | 0, _, _, _, _, _ => none
  | k + 1, x8, x9, x10, x19, x94 => if x94 = true then ((place_Least.f k x9 x19).bind fun bt121 => ((place_Least.f k x8 bt121.1).bind fun bt123 => ((place_Least.f k x10 x19).bind fun bt125 => (if bt121.2 = 0 then (if bt123.2 = 0 then (if bt125.2 = 0 then (if bt123.1 = bt125.1 then (epitomelaw09_ComposeThrough.l1 k x8 x9 x10 (wrap64 (x19 + 1))) else (some false)) else (some false)) else (some false)) else (some false))))) else (some true)
end
def epitomelaw09_ComposeThrough.f (k : Nat) (l0 : List (S51)) (l1 : List (S51)) (a2 : Int) : Option (Bool) := (epitomelaw09_shown.f k).bind fun t101 => ((epitomeref04_Fit.f k l0 (wrap64 (Int.tmod a2 31))).bind fun t102 => ((op_Out.f k t102).bind fun t105 => ((epitomeref04_Fit.f k l1 t105).bind fun t106 => ((compose_Of.f k t102 t106).bind fun bt109 => (if t101 = true then (epitomelaw09_ComposeThrough.j0 k t102 t106 bt109.1 (bt109.2 != 0)) else (epitomelaw09_ComposeThrough.j0 k t102 t106 bt109.1 true))))))
theorem epitomelaw09_ComposeThrough.mono_l : ∀ k, (∀ y0 y1 y2 y3, LeO (epitomelaw09_ComposeThrough.j0 k y0 y1 y2 y3) (epitomelaw09_ComposeThrough.j0 (k + 1) y0 y1 y2 y3)) ∧ (∀ y0 y1 y2 y3, LeO (epitomelaw09_ComposeThrough.l0 k y0 y1 y2 y3) (epitomelaw09_ComposeThrough.l0 (k + 1) y0 y1 y2 y3)) ∧ (∀ y0 y1 y2 y3, LeO (epitomelaw09_ComposeThrough.l1 k y0 y1 y2 y3) (epitomelaw09_ComposeThrough.l1 (k + 1) y0 y1 y2 y3)) ∧ (∀ y0 y1 y2 y3 y4, LeO (epitomelaw09_ComposeThrough.j3 k y0 y1 y2 y3 y4) (epitomelaw09_ComposeThrough.j3 (k + 1) y0 y1 y2 y3 y4))
  | 0 => ⟨fun _ _ _ _ r h => by simp [epitomelaw09_ComposeThrough.j0] at h, fun _ _ _ _ r h => by simp [epitomelaw09_ComposeThrough.l0] at h, fun _ _ _ _ r h => by simp [epitomelaw09_ComposeThrough.l1] at h, fun _ _ _ _ _ r h => by simp [epitomelaw09_ComposeThrough.j3] at h⟩
  | k + 1 => by
    obtain ⟨ih0, ih1, ih2, ih3⟩ := epitomelaw09_ComposeThrough.mono_l k
    refine ⟨?_, ?_, ?_, ?_⟩
    · intro y0 y1 y2 y3
      unfold epitomelaw09_ComposeThrough.j0
      repeat' first
      | (with_reducible exact ih0 _ _ _ _)
      | (with_reducible exact ih1 _ _ _ _)
      | (with_reducible exact ih2 _ _ _ _)
      | (with_reducible exact ih3 _ _ _ _ _)
      | (with_reducible exact compose_Of.mono _ _ _)
      | (with_reducible exact epitomelaw09_shown.mono _)
      | (with_reducible exact epitomeref04_Fit.mono _ _ _)
      | (with_reducible exact op_In.mono _ _)
      | (with_reducible exact op_Out.mono _ _)
      | (with_reducible exact place_Least.mono _ _ _)
      | (with_reducible exact place_Where.mono _ _ _)
      | (with_reducible exact LeO.refl _)
      | (with_reducible exact LeO.none _)
      | (with_reducible refine LeO.ite ?_ ?_)
      | (with_reducible refine LeO.bind ?_ (fun _ => ?_))
      | exact ih0 _ _ _ _
      | exact ih1 _ _ _ _
      | exact ih2 _ _ _ _
      | exact ih3 _ _ _ _ _
      | exact compose_Of.mono _ _ _
      | exact epitomelaw09_shown.mono _
      | exact epitomeref04_Fit.mono _ _ _
      | exact op_In.mono _ _
      | exact op_Out.mono _ _
      | exact place_Least.mono _ _ _
      | exact place_Where.mono _ _ _
      | exact LeO.none _
      | refine LeO.ite ?_ ?_
      | refine LeO.bind ?_ (fun _ => ?_)
    · intro y0 y1 y2 y3
      unfold epitomelaw09_ComposeThrough.l0
      repeat' first
      | (with_reducible exact ih0 _ _ _ _)
      | (with_reducible exact ih1 _ _ _ _)
      | (with_reducible exact ih2 _ _ _ _)
      | (with_reducible exact ih3 _ _ _ _ _)
      | (with_reducible exact compose_Of.mono _ _ _)
      | (with_reducible exact epitomelaw09_shown.mono _)
      | (with_reducible exact epitomeref04_Fit.mono _ _ _)
      | (with_reducible exact op_In.mono _ _)
      | (with_reducible exact op_Out.mono _ _)
      | (with_reducible exact place_Least.mono _ _ _)
      | (with_reducible exact place_Where.mono _ _ _)
      | (with_reducible exact LeO.refl _)
      | (with_reducible exact LeO.none _)
      | (with_reducible refine LeO.ite ?_ ?_)
      | (with_reducible refine LeO.bind ?_ (fun _ => ?_))
      | exact ih0 _ _ _ _
      | exact ih1 _ _ _ _
      | exact ih2 _ _ _ _
      | exact ih3 _ _ _ _ _
      | exact compose_Of.mono _ _ _
      | exact epitomelaw09_shown.mono _
      | exact epitomeref04_Fit.mono _ _ _
      | exact op_In.mono _ _
      | exact op_Out.mono _ _
      | exact place_Least.mono _ _ _
      | exact place_Where.mono _ _ _
      | exact LeO.none _
      | refine LeO.ite ?_ ?_
      | refine LeO.bind ?_ (fun _ => ?_)
    · intro y0 y1 y2 y3
      unfold epitomelaw09_ComposeThrough.l1
      repeat' first
      | (with_reducible exact ih0 _ _ _ _)
      | (with_reducible exact ih1 _ _ _ _)
      | (with_reducible exact ih2 _ _ _ _)
      | (with_reducible exact ih3 _ _ _ _ _)
      | (with_reducible exact compose_Of.mono _ _ _)
      | (with_reducible exact epitomelaw09_shown.mono _)
      | (with_reducible exact epitomeref04_Fit.mono _ _ _)
      | (with_reducible exact op_In.mono _ _)
      | (with_reducible exact op_Out.mono _ _)
      | (with_reducible exact place_Least.mono _ _ _)
      | (with_reducible exact place_Where.mono _ _ _)
      | (with_reducible exact LeO.refl _)
      | (with_reducible exact LeO.none _)
      | (with_reducible refine LeO.ite ?_ ?_)
      | (with_reducible refine LeO.bind ?_ (fun _ => ?_))
      | exact ih0 _ _ _ _
      | exact ih1 _ _ _ _
      | exact ih2 _ _ _ _
      | exact ih3 _ _ _ _ _
      | exact compose_Of.mono _ _ _
      | exact epitomelaw09_shown.mono _
      | exact epitomeref04_Fit.mono _ _ _
      | exact op_In.mono _ _
      | exact op_Out.mono _ _
      | exact place_Least.mono _ _ _
      | exact place_Where.mono _ _ _
      | exact LeO.none _
      | refine LeO.ite ?_ ?_
      | refine LeO.bind ?_ (fun _ => ?_)
    · intro y0 y1 y2 y3 y4
      unfold epitomelaw09_ComposeThrough.j3
      repeat' first
      | (with_reducible exact ih0 _ _ _ _)
      | (with_reducible exact ih1 _ _ _ _)
      | (with_reducible exact ih2 _ _ _ _)
      | (with_reducible exact ih3 _ _ _ _ _)
      | (with_reducible exact compose_Of.mono _ _ _)
      | (with_reducible exact epitomelaw09_shown.mono _)
      | (with_reducible exact epitomeref04_Fit.mono _ _ _)
      | (with_reducible exact op_In.mono _ _)
      | (with_reducible exact op_Out.mono _ _)
      | (with_reducible exact place_Least.mono _ _ _)
      | (with_reducible exact place_Where.mono _ _ _)
      | (with_reducible exact LeO.refl _)
      | (with_reducible exact LeO.none _)
      | (with_reducible refine LeO.ite ?_ ?_)
      | (with_reducible refine LeO.bind ?_ (fun _ => ?_))
      | exact ih0 _ _ _ _
      | exact ih1 _ _ _ _
      | exact ih2 _ _ _ _
      | exact ih3 _ _ _ _ _
      | exact compose_Of.mono _ _ _
      | exact epitomelaw09_shown.mono _
      | exact epitomeref04_Fit.mono _ _ _
      | exact op_In.mono _ _
      | exact op_Out.mono _ _
      | exact place_Least.mono _ _ _
      | exact place_Where.mono _ _ _
      | exact LeO.none _
      | refine LeO.ite ?_ ?_
      | refine LeO.bind ?_ (fun _ => ?_)
set_option maxHeartbeats 8000000 in
set_option maxRecDepth 100000 in
theorem epitomelaw09_ComposeThrough.calls (k : Nat) (A0 : Option Addr) (c0 : Nat) (l0 : List (S51)) (A1 : Option Addr) (c1 : Nat) (l1 : List (S51)) (a2 : Int) (r : Bool) (w : World) (hG : Glob w) (hr0 : Kd.C k51 w A0 l0.length l0) (hc0 : l0.length ≤ c0) (hr1 : Kd.C k51 w A1 l1.length l1) (hc1 : l1.length ≤ c1) (h : epitomelaw09_ComposeThrough.f k l0 l1 a2 = some r) :
    Calls Tryd.prog 13 #[.slice A0 l0.length c0, .slice A1 l1.length c1, .int .u8 a2] w fun e w' => e = .returned (.bool r) ∧ Below w.heap.size w w' := by
  have HG := Aside0.mk hG
  clear hG
  have HR0 := Aside0.mk hr0
  have HC0 := Aside0.mk hc0
  clear hr0 hc0
  have HR1 := Aside0.mk hr1
  have HC1 := Aside0.mk hc1
  clear hr1 hc1
  have HB := Aside0.mk (Below.refl w.heap.size w)
  have H : ((epitomelaw09_shown.f k).bind fun t101 => ((epitomeref04_Fit.f k l0 (wrap64 (Int.tmod a2 31))).bind fun t102 => ((op_Out.f k t102).bind fun t105 => ((epitomeref04_Fit.f k l1 t105).bind fun t106 => ((compose_Of.f k t102 t106).bind fun bt109 => (if t101 = true then (epitomelaw09_ComposeThrough.j0 k t102 t106 bt109.1 (bt109.2 != 0)) else (epitomelaw09_ComposeThrough.j0 k t102 t106 bt109.1 true))))))) = some r := h
  clear h
  replace H := Option.bind_eq_some_iff.mp H
  obtain ⟨t101, A40, H⟩ := H
  replace H : ((epitomeref04_Fit.f k l0 (wrap64 (Int.tmod a2 31))).bind fun t102 => ((op_Out.f k t102).bind fun t105 => ((epitomeref04_Fit.f k l1 t105).bind fun t106 => ((compose_Of.f k t102 t106).bind fun bt109 => (if t101 = true then (epitomelaw09_ComposeThrough.j0 k t102 t106 bt109.1 (bt109.2 != 0)) else (epitomelaw09_ComposeThrough.j0 k t102 t106 bt109.1 true)))))) = some r := H
  have A4 := Aside0.mk A40
  clear A40
  replace H := Option.bind_eq_some_iff.mp H
  obtain ⟨t102, A50, H⟩ := H
  replace H : ((op_Out.f k t102).bind fun t105 => ((epitomeref04_Fit.f k l1 t105).bind fun t106 => ((compose_Of.f k t102 t106).bind fun bt109 => (if t101 = true then (epitomelaw09_ComposeThrough.j0 k t102 t106 bt109.1 (bt109.2 != 0)) else (epitomelaw09_ComposeThrough.j0 k t102 t106 bt109.1 true))))) = some r := H
  have A5 := Aside0.mk A50
  clear A50
  replace H := Option.bind_eq_some_iff.mp H
  obtain ⟨t105, A60, H⟩ := H
  replace H : ((epitomeref04_Fit.f k l1 t105).bind fun t106 => ((compose_Of.f k t102 t106).bind fun bt109 => (if t101 = true then (epitomelaw09_ComposeThrough.j0 k t102 t106 bt109.1 (bt109.2 != 0)) else (epitomelaw09_ComposeThrough.j0 k t102 t106 bt109.1 true)))) = some r := H
  have A6 := Aside0.mk A60
  clear A60
  replace H := Option.bind_eq_some_iff.mp H
  obtain ⟨t106, A70, H⟩ := H
  replace H : ((compose_Of.f k t102 t106).bind fun bt109 => (if t101 = true then (epitomelaw09_ComposeThrough.j0 k t102 t106 bt109.1 (bt109.2 != 0)) else (epitomelaw09_ComposeThrough.j0 k t102 t106 bt109.1 true))) = some r := H
  have A7 := Aside0.mk A70
  clear A70
  replace H := Option.bind_eq_some_iff.mp H
  obtain ⟨⟨t109, t110⟩, A80, H⟩ := H
  replace H : (if t101 = true then (epitomelaw09_ComposeThrough.j0 k t102 t106 t109 (t110 != 0)) else (epitomelaw09_ComposeThrough.j0 k t102 t106 t109 true)) = some r := H
  have A8 := Aside0.mk A80
  clear A80
  have HC9 := Aside0.mk H
  clear H
  go_enter Tryd.func13, Tryd.ntmps13
  go_upto_region 5 with (first | ((with_reducible refine gate_callee (f := 32) rfl ?_); refine goesL_ (some 26) rfl rfl Tryd.func32 (by kernel_rfl) rfl #[] rfl (by (try simp only [List.map_toArray, List.map_cons, List.map_nil]); first | done | rfl | (simp only [List.length_drop, List.length_take]; rfl)) ?_; (with_reducible refine (epitomelaw09_shown.calls k  t101 _ ?side1 A4.out).mono ?_); (case side1 => first | (with_reducible exact HG.out) | exact Glob.below HG.out (by repeat (first | (with_reducible first | exact HB.out | apply below_alloc | apply pw_below_drewN | apply below_drew1) | exact HB.out)) | exact Glob.drawn HG.out (by repeat (first | exact Drawn0.refl _ | apply Drawn0.step))); rintro e w10 ⟨rfl, hb⟩; refine ⟨_, rfl, ?_⟩; have n0_ := Aside0.mk (below_step (by repeat (first | (with_reducible first | exact HB.out | apply below_alloc | apply pw_below_drewN | apply below_drew1) | exact HB.out)) hb); clear HB; have HB := n0_; clear n0_; (try clear hb); (try clear hb2); (try clear hk); (try clear hi)) | ((with_reducible refine gate_callee (f := 16) rfl ?_); refine goesL_ (some 31) rfl rfl Tryd.func16 (by kernel_rfl) rfl #[.slice A0 l0.length c0, .int .i64 (wrap64 (Int.tmod a2 31))] rfl (by (try simp only [List.map_toArray, List.map_cons, List.map_nil]); first | done | rfl | (simp only [List.length_drop, List.length_take]; rfl)) ?_; (with_reducible refine (epitomeref04_Fit.calls k _ _ l0 (wrap64 (Int.tmod a2 31)) t102 _ ?side1 ?side2 A5.out).mono ?_); (case side1 => repeat (first | exact (Kd.C_below HR0.out HB.out) | (with_reducible refine Kd.C_alloc ?_ _) | (with_reducible refine Kd.C_drewN ?_ _) | (with_reducible refine Kd.C_drew ?_))); (case side2 => exact HC0.out); rintro e w11 ⟨v103, rfl, ho0, hb⟩; refine ⟨_, rfl, ?_⟩; have n0_ := Aside0.mk (Kd.R_lower ho0 (below_size (by repeat (first | (with_reducible first | exact HB.out | apply below_alloc | apply pw_below_drewN | apply below_drew1) | exact HB.out)))); have n1_ := Aside0.mk (below_step (by repeat (first | (with_reducible first | exact HB.out | apply below_alloc | apply pw_below_drewN | apply below_drew1) | exact HB.out)) hb); clear HB; have HO104 := n0_; have HB := n1_; clear n0_ n1_; (try clear hb); (try clear hb2); (try clear hk); (try clear hi); (try clear ho0); obtain ⟨Ao12, co12, eo12⟩ := Kd.R_slice HO104.out; subst eo12) | ((with_reducible refine gate_callee (f := 21) rfl ?_); refine goesL_ (some 34) rfl rfl Tryd.func21 (by kernel_rfl) rfl #[.slice Ao12 t102.length co12] rfl (by (try simp only [List.map_toArray, List.map_cons, List.map_nil]); first | done | rfl | (simp only [List.length_drop, List.length_take]; rfl)) ?_; (with_reducible refine (op_Out.calls k _ _ t102 t105 _ ?side1 ?side2 ?side3 A6.out).mono ?_); (case side1 => first | (with_reducible exact HG.out) | exact Glob.below HG.out (by repeat (first | (with_reducible first | exact HB.out | apply below_alloc | apply pw_below_drewN | apply below_drew1) | exact HB.out)) | exact Glob.drawn HG.out (by repeat (first | exact Drawn0.refl _ | apply Drawn0.step))); (case side2 => repeat (first | exact (Kd.R_reads' HO104.out).2.2 | (with_reducible refine Kd.C_alloc ?_ _) | (with_reducible refine Kd.C_drewN ?_ _) | (with_reducible refine Kd.C_drew ?_))); (case side3 => exact (Kd.R_reads' HO104.out).2.1); rintro e w13 ⟨rfl, hb⟩; refine ⟨_, rfl, ?_⟩; have n0_ := Aside0.mk (Kd.R_below (by (with_reducible repeat (first | apply Kd.R_alloc | apply Kd.R_drewN | apply Kd.R_drew)); exact HO104.out) hb); have n1_ := Aside0.mk (below_step (by repeat (first | (with_reducible first | exact HB.out | apply below_alloc | apply pw_below_drewN | apply below_drew1) | exact HB.out)) hb); clear HO104; clear HB; have HO104 := n0_; have HB := n1_; clear n0_ n1_; (try clear hb); (try clear hb2); (try clear hk); (try clear hi)) | ((with_reducible refine gate_callee (f := 16) rfl ?_); refine goesL_ (some 35) rfl rfl Tryd.func16 (by kernel_rfl) rfl #[.slice A1 l1.length c1, .int .i64 t105] rfl (by (try simp only [List.map_toArray, List.map_cons, List.map_nil]); first | done | rfl | (simp only [List.length_drop, List.length_take]; rfl)) ?_; (with_reducible refine (epitomeref04_Fit.calls k _ _ l1 t105 t106 _ ?side1 ?side2 A7.out).mono ?_); (case side1 => repeat (first | exact (Kd.C_below HR1.out HB.out) | (with_reducible refine Kd.C_alloc ?_ _) | (with_reducible refine Kd.C_drewN ?_ _) | (with_reducible refine Kd.C_drew ?_))); (case side2 => exact HC1.out); rintro e w14 ⟨v107, rfl, ho0, hb⟩; refine ⟨_, rfl, ?_⟩; have n0_ := Aside0.mk (Kd.R_elder' (by (with_reducible repeat (first | apply Kd.R_alloc | apply Kd.R_drewN | apply Kd.R_drew)); exact HO104.out) (Kd.R_base ho0) hb); have n1_ := Aside0.mk (Kd.R_lower (Kd.R_new' ho0 (Kd.R_lt (by (with_reducible repeat (first | apply Kd.R_alloc | apply Kd.R_drewN | apply Kd.R_drew)); exact HO104.out))) (below_size (by repeat (first | (with_reducible first | exact HB.out | apply below_alloc | apply pw_below_drewN | apply below_drew1) | exact HB.out)))); have n2_ := Aside0.mk (below_step (by repeat (first | (with_reducible first | exact HB.out | apply below_alloc | apply pw_below_drewN | apply below_drew1) | exact HB.out)) hb); clear HO104; clear HB; have HO104 := n0_; have HO108 := n1_; have HB := n2_; clear n0_ n1_ n2_; (try clear hb); (try clear hb2); (try clear hk); (try clear hi); (try clear ho0); obtain ⟨Ao15, co15, eo15⟩ := Kd.R_slice HO108.out; subst eo15) | ((with_reducible refine gate_callee (f := 33) rfl ?_); refine goesL_ (some 39) rfl rfl Tryd.func33 (by kernel_rfl) rfl #[.slice Ao12 t102.length co12, .slice Ao15 t106.length co15] rfl (by (try simp only [List.map_toArray, List.map_cons, List.map_nil]); first | done | rfl | (simp only [List.length_drop, List.length_take]; rfl)) ?_; (with_reducible refine (compose_Of.calls k _ _ t102 _ _ t106 t109 t110 _ ?side1 ?side2 ?side3 ?side4 ?side5 A8.out).mono ?_); (case side1 => first | (with_reducible exact HG.out) | exact Glob.below HG.out (by repeat (first | (with_reducible first | exact HB.out | apply below_alloc | apply pw_below_drewN | apply below_drew1) | exact HB.out)) | exact Glob.drawn HG.out (by repeat (first | exact Drawn0.refl _ | apply Drawn0.step))); (case side2 => repeat (first | exact (Kd.R_reads' HO104.out).2.2 | (with_reducible refine Kd.C_alloc ?_ _) | (with_reducible refine Kd.C_drewN ?_ _) | (with_reducible refine Kd.C_drew ?_))); (case side3 => exact (Kd.R_reads' HO104.out).2.1); (case side4 => repeat (first | exact (Kd.R_reads' HO108.out).2.2 | (with_reducible refine Kd.C_alloc ?_ _) | (with_reducible refine Kd.C_drewN ?_ _) | (with_reducible refine Kd.C_drew ?_))); (case side5 => exact (Kd.R_reads' HO108.out).2.1); rintro e w16 ⟨v111, rfl, ho0, hb⟩; refine ⟨_, rfl, ?_⟩; have n0_ := Aside0.mk (Kd.R_elder' (by (with_reducible repeat (first | apply Kd.R_alloc | apply Kd.R_drewN | apply Kd.R_drew)); exact HO104.out) (Kd.R_base ho0) hb); have n1_ := Aside0.mk (Kd.R_elder' (by (with_reducible repeat (first | apply Kd.R_alloc | apply Kd.R_drewN | apply Kd.R_drew)); exact HO108.out) (Kd.R_base ho0) hb); have n2_ := Aside0.mk (Kd.R_lower (Kd.R_new' (Kd.R_new' ho0 (Kd.R_lt (by (with_reducible repeat (first | apply Kd.R_alloc | apply Kd.R_drewN | apply Kd.R_drew)); exact HO104.out))) (Kd.R_lt (by (with_reducible repeat (first | apply Kd.R_alloc | apply Kd.R_drewN | apply Kd.R_drew)); exact HO108.out))) (below_size (by repeat (first | (with_reducible first | exact HB.out | apply below_alloc | apply pw_below_drewN | apply below_drew1) | exact HB.out)))); have n3_ := Aside0.mk (below_step (by repeat (first | (with_reducible first | exact HB.out | apply below_alloc | apply pw_below_drewN | apply below_drew1) | exact HB.out)) hb); clear HO104; clear HO108; clear HB; have HO104 := n0_; have HO108 := n1_; have HO112 := n2_; have HB := n3_; clear n0_ n1_ n2_ n3_; (try clear hb); (try clear hb2); (try clear hk); (try clear hi); (try clear ho0)))
  (try simp only [Act.put, List.setIfInBounds_toArray, List.set_cons_zero, List.set_cons_succ])
  go_cut [47] (fun v47 wc => ∃ (kq : Nat) (x47_8 : Bool), v47 = .bool x47_8 ∧ Aside0 (epitomelaw09_ComposeThrough.j0 kq t102 t106 t109 x47_8 = some r) ∧ Aside0 (kq ≤ k) ∧ Aside0 (Kd.R k51 51 wc w.heap.size (fun k_ => some k_ ≠ ((.slice Ao15 t106.length co15) : Value).ownBlock ∧ some k_ ≠ (v111 : Value).ownBlock) (.slice Ao12 t102.length co12) t102) ∧ Aside0 (Kd.R k51 51 wc w.heap.size (fun k_ => some k_ ≠ ((.slice Ao12 t102.length co12) : Value).ownBlock ∧ some k_ ≠ (v111 : Value).ownBlock) (.slice Ao15 t106.length co15) t106) ∧ Aside0 (Kd.R k51 51 wc w.heap.size (fun k_ => some k_ ≠ ((.slice Ao12 t102.length co12) : Value).ownBlock ∧ some k_ ≠ ((.slice Ao15 t106.length co15) : Value).ownBlock) v111 t109) ∧ Aside0 (Below w.heap.size w wc))
  case first =>
    have H := HC9.out
    clear HC9
    by_cases c17 : t101 = true
    · subst c17
      have H1 : (epitomelaw09_ComposeThrough.j0 k t102 t106 t109 (t110 != 0)) = some r := by rw [if_pos rfl] at H; exact H
      clear H
      have H := H1
      clear H1
      have H' := Aside0.mk H
      clear H
      go_wp2
      go_meet
      case rel => exact ⟨_, ((t110 != 0)), (by first | rfl | (simp; done) | (simp [*]; done)), H', ⟨by first | omega | exact Nat.le_refl _⟩, ⟨by (with_reducible repeat (first | apply Kd.R_alloc | apply Kd.R_drewN | apply Kd.R_drew)); exact Kd.R_mono HO104.out (fun _ hk => ⟨hk.1.2, hk.2⟩)⟩, ⟨by (with_reducible repeat (first | apply Kd.R_alloc | apply Kd.R_drewN | apply Kd.R_drew)); exact Kd.R_mono HO108.out (fun _ hk => ⟨hk.1.2, hk.2⟩)⟩, ⟨by (with_reducible repeat (first | apply Kd.R_alloc | apply Kd.R_drewN | apply Kd.R_drew)); exact Kd.R_mono HO112.out (fun _ hk => ⟨hk.1.2, hk.2⟩)⟩, ⟨by repeat (first | (with_reducible first | exact HB.out | apply below_alloc | apply pw_below_drewN | apply below_drew1) | exact HB.out)⟩⟩
    · replace c17 := Bool.eq_false_iff.mpr c17
      subst c17
      have H1 : (epitomelaw09_ComposeThrough.j0 k t102 t106 t109 true) = some r := by rw [if_neg (show ¬ (false = true) by decide)] at H; exact H
      clear H
      have H := H1
      clear H1
      have H' := Aside0.mk H
      clear H
      go_wp2
      go_meet
      case rel => exact ⟨_, (true), (by first | rfl | (simp; done) | (simp [*]; done)), H', ⟨by first | omega | exact Nat.le_refl _⟩, ⟨by (with_reducible repeat (first | apply Kd.R_alloc | apply Kd.R_drewN | apply Kd.R_drew)); exact Kd.R_mono HO104.out (fun _ hk => ⟨hk.1.2, hk.2⟩)⟩, ⟨by (with_reducible repeat (first | apply Kd.R_alloc | apply Kd.R_drewN | apply Kd.R_drew)); exact Kd.R_mono HO108.out (fun _ hk => ⟨hk.1.2, hk.2⟩)⟩, ⟨by (with_reducible repeat (first | apply Kd.R_alloc | apply Kd.R_drewN | apply Kd.R_drew)); exact Kd.R_mono HO112.out (fun _ hk => ⟨hk.1.2, hk.2⟩)⟩, ⟨by repeat (first | (with_reducible first | exact HB.out | apply below_alloc | apply pw_below_drewN | apply below_drew1) | exact HB.out)⟩⟩
  case rest =>
    clear HC9
    try clear c1
    try clear c2
    try clear p2
    try clear c3
    try clear p6
    try clear c13
    try clear c16
    try clear c17
    obtain ⟨kq, x47_8, rfl, HA, HJ8, HO_8, HO_9, HO_10, HB⟩ := hcut
    cases kq with
    | zero => exact absurd HA.out (by simp [epitomelaw09_ComposeThrough.j0])
    | succ kj8 =>
      have H := HA.out
      clear HA
      simp only [epitomelaw09_ComposeThrough.j0] at H
      by_cases c18 : x47_8 = true
      · subst c18
        have H1 : (some false) = some r := by rw [if_pos rfl] at H; exact H
        clear H
        have H := H1
        clear H1
        obtain rfl := Option.some.inj H
        go_wp2
        go_ret
        exact ⟨by first | rfl | (simp [errW_none, errW_some] <;> rfl) | (simp [*, errW_none, errW_some] <;> rfl), by repeat (first | (with_reducible first | exact HB.out | apply below_alloc | apply pw_below_drewN | apply below_drew1) | exact HB.out)⟩
      · replace c18 := Bool.eq_false_iff.mpr c18
        subst c18
        have H1 : (epitomelaw09_ComposeThrough.l0 kj8 t102 t106 t109 0) = some r := by rw [if_neg (show ¬ (false = true) by decide)] at H; exact H
        clear H
        have H := H1
        clear H1
        have H' := Aside0.mk H
        clear H
        go_wp2
        go_loopg [12] kj8 (fun kq v12 w' => ∃ (x12_2 : Int), v12 = .int .i64 x12_2 ∧ Aside0 (epitomelaw09_ComposeThrough.l0 kq t102 t106 t109 x12_2 = some r) ∧ Aside0 (kq ≤ kj8) ∧ Aside0 (Kd.R k51 51 w' w.heap.size (fun k_ => some k_ ≠ ((.slice Ao15 t106.length co15) : Value).ownBlock ∧ some k_ ≠ (v111 : Value).ownBlock) (.slice Ao12 t102.length co12) t102) ∧ Aside0 (Kd.R k51 51 w' w.heap.size (fun k_ => some k_ ≠ ((.slice Ao12 t102.length co12) : Value).ownBlock ∧ some k_ ≠ (v111 : Value).ownBlock) (.slice Ao15 t106.length co15) t106) ∧ Aside0 (Kd.R k51 51 w' w.heap.size (fun k_ => some k_ ≠ ((.slice Ao12 t102.length co12) : Value).ownBlock ∧ some k_ ≠ ((.slice Ao15 t106.length co15) : Value).ownBlock) v111 t109) ∧ Aside0 (Below w.heap.size w w'))
        case atStart => exact ⟨(0), (by first | rfl | (simp; done) | (simp [*]; done)), H', ⟨Nat.le_refl _⟩, ⟨by (with_reducible repeat (first | apply Kd.R_alloc | apply Kd.R_drewN | apply Kd.R_drew)); exact HO_8.out⟩, ⟨by (with_reducible repeat (first | apply Kd.R_alloc | apply Kd.R_drewN | apply Kd.R_drew)); exact HO_9.out⟩, ⟨by (with_reducible repeat (first | apply Kd.R_alloc | apply Kd.R_drewN | apply Kd.R_drew)); exact HO_10.out⟩, ⟨by repeat (first | (with_reducible first | exact HB.out | apply below_alloc | apply pw_below_drewN | apply below_drew1) | exact HB.out)⟩⟩
        case round =>
          clear H'
          try clear c1
          try clear c2
          try clear p2
          try clear c3
          try clear p6
          try clear c13
          try clear c16
          try clear c17
          try clear c18
          try clear p2
          try clear p6
          obtain ⟨x12_2, rfl, HA, HK2, HO_8, HO_9, HO_10, HB⟩ := hrel
          cases gk with
          | zero => exact absurd HA.out (by simp [epitomelaw09_ComposeThrough.l0])
          | succ k2 =>
            have H := HA.out
            clear HA
            simp only [epitomelaw09_ComposeThrough.l0] at H
            replace H := Option.bind_eq_some_iff.mp H
            obtain ⟨t113, A190, H⟩ := H
            replace H : (if x12_2 ≤ t113 then ((place_Where.f k2 t102 x12_2).bind fun bt114 => ((place_Where.f k2 t106 bt114.1).bind fun bt116 => ((place_Where.f k2 t109 x12_2).bind fun bt118 => (if bt114.2 = 0 then (if bt116.2 = 0 then (if bt118.2 = 0 then (if bt116.1 = bt118.1 then (epitomelaw09_ComposeThrough.l0 k2 t102 t106 t109 (wrap64 (x12_2 + 1))) else (some false)) else (some false)) else (some false)) else (some false))))) else (epitomelaw09_ComposeThrough.l1 k2 t102 t106 t109 0)) = some r := H
            have A19 := Aside0.mk A190
            clear A190
            by_cases c20 : x12_2 ≤ t113
            · rw [if_pos c20] at H
              have c20b0 : decide (x12_2 ≤ t113) = true := decide_eq_true c20
              clear c20
              replace H := Option.bind_eq_some_iff.mp H
              obtain ⟨⟨t114, t115⟩, A210, H⟩ := H
              replace H : ((place_Where.f k2 t106 t114).bind fun bt116 => ((place_Where.f k2 t109 x12_2).bind fun bt118 => (if t115 = 0 then (if bt116.2 = 0 then (if bt118.2 = 0 then (if bt116.1 = bt118.1 then (epitomelaw09_ComposeThrough.l0 k2 t102 t106 t109 (wrap64 (x12_2 + 1))) else (some false)) else (some false)) else (some false)) else (some false)))) = some r := H
              have A21 := Aside0.mk A210
              clear A210
              replace H := Option.bind_eq_some_iff.mp H
              obtain ⟨⟨t116, t117⟩, A220, H⟩ := H
              replace H : ((place_Where.f k2 t109 x12_2).bind fun bt118 => (if t115 = 0 then (if t117 = 0 then (if bt118.2 = 0 then (if t116 = bt118.1 then (epitomelaw09_ComposeThrough.l0 k2 t102 t106 t109 (wrap64 (x12_2 + 1))) else (some false)) else (some false)) else (some false)) else (some false))) = some r := H
              have A22 := Aside0.mk A220
              clear A220
              replace H := Option.bind_eq_some_iff.mp H
              obtain ⟨⟨t118, t119⟩, A230, H⟩ := H
              replace H : (if t115 = 0 then (if t117 = 0 then (if t119 = 0 then (if t116 = t118 then (epitomelaw09_ComposeThrough.l0 k2 t102 t106 t109 (wrap64 (x12_2 + 1))) else (some false)) else (some false)) else (some false)) else (some false)) = some r := H
              have A23 := Aside0.mk A230
              clear A230
              by_cases c24 : t115 = 0
              · rw [if_pos c24] at H
                have c24b0 : (t115 == 0) = true := beq_iff_eq.mpr c24
                have c24b1 : (t115 != 0) = false := bne_eq_false_iff_eq.mpr c24
                clear c24
                by_cases c25 : t117 = 0
                · rw [if_pos c25] at H
                  have c25b0 : (t117 == 0) = true := beq_iff_eq.mpr c25
                  have c25b1 : (t117 != 0) = false := bne_eq_false_iff_eq.mpr c25
                  clear c25
                  by_cases c26 : t119 = 0
                  · rw [if_pos c26] at H
                    have c26b0 : (t119 == 0) = true := beq_iff_eq.mpr c26
                    have c26b1 : (t119 != 0) = false := bne_eq_false_iff_eq.mpr c26
                    clear c26
                    by_cases c27 : t116 = t118
                    · rw [if_pos c27] at H
                      have c27b0 : (t116 == t118) = true := beq_iff_eq.mpr c27
                      have c27b1 : (t116 != t118) = false := bne_eq_false_iff_eq.mpr c27
                      clear c27
                      have H' := Aside0.mk H
                      clear H
                      go_wp2_with (first | ((with_reducible refine gate_callee (f := 20) rfl ?_); refine goesL_ (some 50) rfl rfl Tryd.func20 (by kernel_rfl) rfl #[.slice Ao12 t102.length co12] rfl (by (try simp only [List.map_toArray, List.map_cons, List.map_nil]); first | done | rfl | (simp only [List.length_drop, List.length_take]; rfl)) ?_; (with_reducible refine (op_In.calls k2 _ _ t102 t113 _ ?side1 ?side2 ?side3 A19.out).mono ?_); (case side1 => first | (with_reducible exact HG.out) | exact Glob.below HG.out (by repeat (first | (with_reducible first | exact HB.out | apply below_alloc | apply pw_below_drewN | apply below_drew1) | exact HB.out)) | exact Glob.drawn HG.out (by repeat (first | exact Drawn0.refl _ | apply Drawn0.step))); (case side2 => repeat (first | exact (Kd.R_reads' HO_8.out).2.2 | (with_reducible refine Kd.C_alloc ?_ _) | (with_reducible refine Kd.C_drewN ?_ _) | (with_reducible refine Kd.C_drew ?_))); (case side3 => exact (Kd.R_reads' HO_8.out).2.1); rintro e w28 ⟨rfl, hb⟩; refine ⟨_, rfl, ?_⟩; have n0_ := Aside0.mk (Kd.R_below (by (with_reducible repeat (first | apply Kd.R_alloc | apply Kd.R_drewN | apply Kd.R_drew)); exact HO_8.out) hb); have n1_ := Aside0.mk (Kd.R_below (by (with_reducible repeat (first | apply Kd.R_alloc | apply Kd.R_drewN | apply Kd.R_drew)); exact HO_9.out) hb); have n2_ := Aside0.mk (Kd.R_below (by (with_reducible repeat (first | apply Kd.R_alloc | apply Kd.R_drewN | apply Kd.R_drew)); exact HO_10.out) hb); have n3_ := Aside0.mk (below_step (by repeat (first | (with_reducible first | exact HB.out | apply below_alloc | apply pw_below_drewN | apply below_drew1) | exact HB.out)) hb); clear HO_8; clear HO_9; clear HO_10; clear HB; have HO_8 := n0_; have HO_9 := n1_; have HO_10 := n2_; have HB := n3_; clear n0_ n1_ n2_ n3_; (try clear hb); (try clear hb2); (try clear hk); (try clear hi)) | ((with_reducible refine gate_callee (f := 25) rfl ?_); refine goesL_ (some 57) rfl rfl Tryd.func25 (by kernel_rfl) rfl #[.slice Ao12 t102.length co12, .int .i64 x12_2] rfl (by (try simp only [List.map_toArray, List.map_cons, List.map_nil]); first | done | rfl | (simp only [List.length_drop, List.length_take]; rfl)) ?_; (with_reducible refine (place_Where.calls k2 _ _ t102 x12_2 t114 t115 _ ?side1 ?side2 ?side3 A21.out).mono ?_); (case side1 => first | (with_reducible exact HG.out) | exact Glob.below HG.out (by repeat (first | (with_reducible first | exact HB.out | apply below_alloc | apply pw_below_drewN | apply below_drew1) | exact HB.out)) | exact Glob.drawn HG.out (by repeat (first | exact Drawn0.refl _ | apply Drawn0.step))); (case side2 => repeat (first | exact (Kd.R_reads' HO_8.out).2.2 | (with_reducible refine Kd.C_alloc ?_ _) | (with_reducible refine Kd.C_drewN ?_ _) | (with_reducible refine Kd.C_drew ?_))); (case side3 => exact (Kd.R_reads' HO_8.out).2.1); rintro e w29 ⟨rfl, hb⟩; refine ⟨_, rfl, ?_⟩; have n0_ := Aside0.mk (Kd.R_below (by (with_reducible repeat (first | apply Kd.R_alloc | apply Kd.R_drewN | apply Kd.R_drew)); exact HO_8.out) hb); have n1_ := Aside0.mk (Kd.R_below (by (with_reducible repeat (first | apply Kd.R_alloc | apply Kd.R_drewN | apply Kd.R_drew)); exact HO_9.out) hb); have n2_ := Aside0.mk (Kd.R_below (by (with_reducible repeat (first | apply Kd.R_alloc | apply Kd.R_drewN | apply Kd.R_drew)); exact HO_10.out) hb); have n3_ := Aside0.mk (below_step (by repeat (first | (with_reducible first | exact HB.out | apply below_alloc | apply pw_below_drewN | apply below_drew1) | exact HB.out)) hb); clear HO_8; clear HO_9; clear HO_10; clear HB; have HO_8 := n0_; have HO_9 := n1_; have HO_10 := n2_; have HB := n3_; clear n0_ n1_ n2_ n3_; (try clear hb); (try clear hb2); (try clear hk); (try clear hi); (try clear A21)) | ((with_reducible refine gate_callee (f := 25) rfl ?_); refine goesL_ (some 63) rfl rfl Tryd.func25 (by kernel_rfl) rfl #[.slice Ao15 t106.length co15, .int .i64 t114] rfl (by (try simp only [List.map_toArray, List.map_cons, List.map_nil]); first | done | rfl | (simp only [List.length_drop, List.length_take]; rfl)) ?_; (with_reducible refine (place_Where.calls k2 _ _ t106 t114 t116 t117 _ ?side1 ?side2 ?side3 A22.out).mono ?_); (case side1 => first | (with_reducible exact HG.out) | exact Glob.below HG.out (by repeat (first | (with_reducible first | exact HB.out | apply below_alloc | apply pw_below_drewN | apply below_drew1) | exact HB.out)) | exact Glob.drawn HG.out (by repeat (first | exact Drawn0.refl _ | apply Drawn0.step))); (case side2 => repeat (first | exact (Kd.R_reads' HO_9.out).2.2 | (with_reducible refine Kd.C_alloc ?_ _) | (with_reducible refine Kd.C_drewN ?_ _) | (with_reducible refine Kd.C_drew ?_))); (case side3 => exact (Kd.R_reads' HO_9.out).2.1); rintro e w30 ⟨rfl, hb⟩; refine ⟨_, rfl, ?_⟩; have n0_ := Aside0.mk (Kd.R_below (by (with_reducible repeat (first | apply Kd.R_alloc | apply Kd.R_drewN | apply Kd.R_drew)); exact HO_8.out) hb); have n1_ := Aside0.mk (Kd.R_below (by (with_reducible repeat (first | apply Kd.R_alloc | apply Kd.R_drewN | apply Kd.R_drew)); exact HO_9.out) hb); have n2_ := Aside0.mk (Kd.R_below (by (with_reducible repeat (first | apply Kd.R_alloc | apply Kd.R_drewN | apply Kd.R_drew)); exact HO_10.out) hb); have n3_ := Aside0.mk (below_step (by repeat (first | (with_reducible first | exact HB.out | apply below_alloc | apply pw_below_drewN | apply below_drew1) | exact HB.out)) hb); clear HO_8; clear HO_9; clear HO_10; clear HB; have HO_8 := n0_; have HO_9 := n1_; have HO_10 := n2_; have HB := n3_; clear n0_ n1_ n2_ n3_; (try clear hb); (try clear hb2); (try clear hk); (try clear hi); obtain ⟨Ao31, co31, eo31⟩ := Kd.R_slice HO_10.out; subst eo31; (try clear A22)) | ((with_reducible refine gate_callee (f := 25) rfl ?_); refine goesL_ (some 69) rfl rfl Tryd.func25 (by kernel_rfl) rfl #[.slice Ao31 t109.length co31, .int .i64 x12_2] rfl (by (try simp only [List.map_toArray, List.map_cons, List.map_nil]); first | done | rfl | (simp only [List.length_drop, List.length_take]; rfl)) ?_; (with_reducible refine (place_Where.calls k2 _ _ t109 x12_2 t118 t119 _ ?side1 ?side2 ?side3 A23.out).mono ?_); (case side1 => first | (with_reducible exact HG.out) | exact Glob.below HG.out (by repeat (first | (with_reducible first | exact HB.out | apply below_alloc | apply pw_below_drewN | apply below_drew1) | exact HB.out)) | exact Glob.drawn HG.out (by repeat (first | exact Drawn0.refl _ | apply Drawn0.step))); (case side2 => repeat (first | exact (Kd.R_reads' HO_10.out).2.2 | (with_reducible refine Kd.C_alloc ?_ _) | (with_reducible refine Kd.C_drewN ?_ _) | (with_reducible refine Kd.C_drew ?_))); (case side3 => exact (Kd.R_reads' HO_10.out).2.1); rintro e w32 ⟨rfl, hb⟩; refine ⟨_, rfl, ?_⟩; have n0_ := Aside0.mk (Kd.R_below (by (with_reducible repeat (first | apply Kd.R_alloc | apply Kd.R_drewN | apply Kd.R_drew)); exact HO_8.out) hb); have n1_ := Aside0.mk (Kd.R_below (by (with_reducible repeat (first | apply Kd.R_alloc | apply Kd.R_drewN | apply Kd.R_drew)); exact HO_9.out) hb); have n2_ := Aside0.mk (Kd.R_below (by (with_reducible repeat (first | apply Kd.R_alloc | apply Kd.R_drewN | apply Kd.R_drew)); exact HO_10.out) hb); have n3_ := Aside0.mk (below_step (by repeat (first | (with_reducible first | exact HB.out | apply below_alloc | apply pw_below_drewN | apply below_drew1) | exact HB.out)) hb); clear HO_8; clear HO_9; clear HO_10; clear HB; have HO_8 := n0_; have HO_9 := n1_; have HO_10 := n2_; have HB := n3_; clear n0_ n1_ n2_ n3_; (try clear hb); (try clear hb2); (try clear hk); (try clear hi); (try clear A23)))
                      go_roundg k2
                      case measure => have := HJ8.out; have := HK2.out; omega
                      case rel => exact ⟨(wrap64 (x12_2 + 1)), (by first | rfl | (simp; done) | (simp [*]; done)), H', ⟨by have := HJ8.out; have := HK2.out; omega⟩, ⟨by (with_reducible repeat (first | apply Kd.R_alloc | apply Kd.R_drewN | apply Kd.R_drew)); exact HO_8.out⟩, ⟨by (with_reducible repeat (first | apply Kd.R_alloc | apply Kd.R_drewN | apply Kd.R_drew)); exact HO_9.out⟩, ⟨by (with_reducible repeat (first | apply Kd.R_alloc | apply Kd.R_drewN | apply Kd.R_drew)); exact HO_10.out⟩, ⟨by repeat (first | (with_reducible first | exact HB.out | apply below_alloc | apply pw_below_drewN | apply below_drew1) | exact HB.out)⟩⟩
                    · rw [if_neg c27] at H
                      have c27b0 : (t116 == t118) = false := beq_eq_false_iff_ne.mpr c27
                      have c27b1 : (t116 != t118) = true := bne_iff_ne.mpr c27
                      obtain rfl := Option.some.inj H
                      go_wp2_with (first | ((with_reducible refine gate_callee (f := 20) rfl ?_); refine goesL_ (some 50) rfl rfl Tryd.func20 (by kernel_rfl) rfl #[.slice Ao12 t102.length co12] rfl (by (try simp only [List.map_toArray, List.map_cons, List.map_nil]); first | done | rfl | (simp only [List.length_drop, List.length_take]; rfl)) ?_; (with_reducible refine (op_In.calls k2 _ _ t102 t113 _ ?side1 ?side2 ?side3 A19.out).mono ?_); (case side1 => first | (with_reducible exact HG.out) | exact Glob.below HG.out (by repeat (first | (with_reducible first | exact HB.out | apply below_alloc | apply pw_below_drewN | apply below_drew1) | exact HB.out)) | exact Glob.drawn HG.out (by repeat (first | exact Drawn0.refl _ | apply Drawn0.step))); (case side2 => repeat (first | exact (Kd.R_reads' HO_8.out).2.2 | (with_reducible refine Kd.C_alloc ?_ _) | (with_reducible refine Kd.C_drewN ?_ _) | (with_reducible refine Kd.C_drew ?_))); (case side3 => exact (Kd.R_reads' HO_8.out).2.1); rintro e w33 ⟨rfl, hb⟩; refine ⟨_, rfl, ?_⟩; have n0_ := Aside0.mk (Kd.R_below (by (with_reducible repeat (first | apply Kd.R_alloc | apply Kd.R_drewN | apply Kd.R_drew)); exact HO_8.out) hb); have n1_ := Aside0.mk (Kd.R_below (by (with_reducible repeat (first | apply Kd.R_alloc | apply Kd.R_drewN | apply Kd.R_drew)); exact HO_9.out) hb); have n2_ := Aside0.mk (Kd.R_below (by (with_reducible repeat (first | apply Kd.R_alloc | apply Kd.R_drewN | apply Kd.R_drew)); exact HO_10.out) hb); have n3_ := Aside0.mk (below_step (by repeat (first | (with_reducible first | exact HB.out | apply below_alloc | apply pw_below_drewN | apply below_drew1) | exact HB.out)) hb); clear HO_8; clear HO_9; clear HO_10; clear HB; have HO_8 := n0_; have HO_9 := n1_; have HO_10 := n2_; have HB := n3_; clear n0_ n1_ n2_ n3_; (try clear hb); (try clear hb2); (try clear hk); (try clear hi)) | ((with_reducible refine gate_callee (f := 25) rfl ?_); refine goesL_ (some 57) rfl rfl Tryd.func25 (by kernel_rfl) rfl #[.slice Ao12 t102.length co12, .int .i64 x12_2] rfl (by (try simp only [List.map_toArray, List.map_cons, List.map_nil]); first | done | rfl | (simp only [List.length_drop, List.length_take]; rfl)) ?_; (with_reducible refine (place_Where.calls k2 _ _ t102 x12_2 t114 t115 _ ?side1 ?side2 ?side3 A21.out).mono ?_); (case side1 => first | (with_reducible exact HG.out) | exact Glob.below HG.out (by repeat (first | (with_reducible first | exact HB.out | apply below_alloc | apply pw_below_drewN | apply below_drew1) | exact HB.out)) | exact Glob.drawn HG.out (by repeat (first | exact Drawn0.refl _ | apply Drawn0.step))); (case side2 => repeat (first | exact (Kd.R_reads' HO_8.out).2.2 | (with_reducible refine Kd.C_alloc ?_ _) | (with_reducible refine Kd.C_drewN ?_ _) | (with_reducible refine Kd.C_drew ?_))); (case side3 => exact (Kd.R_reads' HO_8.out).2.1); rintro e w34 ⟨rfl, hb⟩; refine ⟨_, rfl, ?_⟩; have n0_ := Aside0.mk (Kd.R_below (by (with_reducible repeat (first | apply Kd.R_alloc | apply Kd.R_drewN | apply Kd.R_drew)); exact HO_8.out) hb); have n1_ := Aside0.mk (Kd.R_below (by (with_reducible repeat (first | apply Kd.R_alloc | apply Kd.R_drewN | apply Kd.R_drew)); exact HO_9.out) hb); have n2_ := Aside0.mk (Kd.R_below (by (with_reducible repeat (first | apply Kd.R_alloc | apply Kd.R_drewN | apply Kd.R_drew)); exact HO_10.out) hb); have n3_ := Aside0.mk (below_step (by repeat (first | (with_reducible first | exact HB.out | apply below_alloc | apply pw_below_drewN | apply below_drew1) | exact HB.out)) hb); clear HO_8; clear HO_9; clear HO_10; clear HB; have HO_8 := n0_; have HO_9 := n1_; have HO_10 := n2_; have HB := n3_; clear n0_ n1_ n2_ n3_; (try clear hb); (try clear hb2); (try clear hk); (try clear hi); (try clear A21)) | ((with_reducible refine gate_callee (f := 25) rfl ?_); refine goesL_ (some 63) rfl rfl Tryd.func25 (by kernel_rfl) rfl #[.slice Ao15 t106.length co15, .int .i64 t114] rfl (by (try simp only [List.map_toArray, List.map_cons, List.map_nil]); first | done | rfl | (simp only [List.length_drop, List.length_take]; rfl)) ?_; (with_reducible refine (place_Where.calls k2 _ _ t106 t114 t116 t117 _ ?side1 ?side2 ?side3 A22.out).mono ?_); (case side1 => first | (with_reducible exact HG.out) | exact Glob.below HG.out (by repeat (first | (with_reducible first | exact HB.out | apply below_alloc | apply pw_below_drewN | apply below_drew1) | exact HB.out)) | exact Glob.drawn HG.out (by repeat (first | exact Drawn0.refl _ | apply Drawn0.step))); (case side2 => repeat (first | exact (Kd.R_reads' HO_9.out).2.2 | (with_reducible refine Kd.C_alloc ?_ _) | (with_reducible refine Kd.C_drewN ?_ _) | (with_reducible refine Kd.C_drew ?_))); (case side3 => exact (Kd.R_reads' HO_9.out).2.1); rintro e w35 ⟨rfl, hb⟩; refine ⟨_, rfl, ?_⟩; have n0_ := Aside0.mk (Kd.R_below (by (with_reducible repeat (first | apply Kd.R_alloc | apply Kd.R_drewN | apply Kd.R_drew)); exact HO_8.out) hb); have n1_ := Aside0.mk (Kd.R_below (by (with_reducible repeat (first | apply Kd.R_alloc | apply Kd.R_drewN | apply Kd.R_drew)); exact HO_9.out) hb); have n2_ := Aside0.mk (Kd.R_below (by (with_reducible repeat (first | apply Kd.R_alloc | apply Kd.R_drewN | apply Kd.R_drew)); exact HO_10.out) hb); have n3_ := Aside0.mk (below_step (by repeat (first | (with_reducible first | exact HB.out | apply below_alloc | apply pw_below_drewN | apply below_drew1) | exact HB.out)) hb); clear HO_8; clear HO_9; clear HO_10; clear HB; have HO_8 := n0_; have HO_9 := n1_; have HO_10 := n2_; have HB := n3_; clear n0_ n1_ n2_ n3_; (try clear hb); (try clear hb2); (try clear hk); (try clear hi); obtain ⟨Ao36, co36, eo36⟩ := Kd.R_slice HO_10.out; subst eo36; (try clear A22)) | ((with_reducible refine gate_callee (f := 25) rfl ?_); refine goesL_ (some 69) rfl rfl Tryd.func25 (by kernel_rfl) rfl #[.slice Ao36 t109.length co36, .int .i64 x12_2] rfl (by (try simp only [List.map_toArray, List.map_cons, List.map_nil]); first | done | rfl | (simp only [List.length_drop, List.length_take]; rfl)) ?_; (with_reducible refine (place_Where.calls k2 _ _ t109 x12_2 t118 t119 _ ?side1 ?side2 ?side3 A23.out).mono ?_); (case side1 => first | (with_reducible exact HG.out) | exact Glob.below HG.out (by repeat (first | (with_reducible first | exact HB.out | apply below_alloc | apply pw_below_drewN | apply below_drew1) | exact HB.out)) | exact Glob.drawn HG.out (by repeat (first | exact Drawn0.refl _ | apply Drawn0.step))); (case side2 => repeat (first | exact (Kd.R_reads' HO_10.out).2.2 | (with_reducible refine Kd.C_alloc ?_ _) | (with_reducible refine Kd.C_drewN ?_ _) | (with_reducible refine Kd.C_drew ?_))); (case side3 => exact (Kd.R_reads' HO_10.out).2.1); rintro e w37 ⟨rfl, hb⟩; refine ⟨_, rfl, ?_⟩; have n0_ := Aside0.mk (Kd.R_below (by (with_reducible repeat (first | apply Kd.R_alloc | apply Kd.R_drewN | apply Kd.R_drew)); exact HO_8.out) hb); have n1_ := Aside0.mk (Kd.R_below (by (with_reducible repeat (first | apply Kd.R_alloc | apply Kd.R_drewN | apply Kd.R_drew)); exact HO_9.out) hb); have n2_ := Aside0.mk (Kd.R_below (by (with_reducible repeat (first | apply Kd.R_alloc | apply Kd.R_drewN | apply Kd.R_drew)); exact HO_10.out) hb); have n3_ := Aside0.mk (below_step (by repeat (first | (with_reducible first | exact HB.out | apply below_alloc | apply pw_below_drewN | apply below_drew1) | exact HB.out)) hb); clear HO_8; clear HO_9; clear HO_10; clear HB; have HO_8 := n0_; have HO_9 := n1_; have HO_10 := n2_; have HB := n3_; clear n0_ n1_ n2_ n3_; (try clear hb); (try clear hb2); (try clear hk); (try clear hi); (try clear A23)))
                      go_ret
                      exact ⟨by first | rfl | (simp [errW_none, errW_some] <;> rfl) | (simp [*, errW_none, errW_some] <;> rfl), by repeat (first | (with_reducible first | exact HB.out | apply below_alloc | apply pw_below_drewN | apply below_drew1) | exact HB.out)⟩
                  · rw [if_neg c26] at H
                    have c26b0 : (t119 == 0) = false := beq_eq_false_iff_ne.mpr c26
                    have c26b1 : (t119 != 0) = true := bne_iff_ne.mpr c26
                    obtain rfl := Option.some.inj H
                    go_wp2_with (first | ((with_reducible refine gate_callee (f := 20) rfl ?_); refine goesL_ (some 50) rfl rfl Tryd.func20 (by kernel_rfl) rfl #[.slice Ao12 t102.length co12] rfl (by (try simp only [List.map_toArray, List.map_cons, List.map_nil]); first | done | rfl | (simp only [List.length_drop, List.length_take]; rfl)) ?_; (with_reducible refine (op_In.calls k2 _ _ t102 t113 _ ?side1 ?side2 ?side3 A19.out).mono ?_); (case side1 => first | (with_reducible exact HG.out) | exact Glob.below HG.out (by repeat (first | (with_reducible first | exact HB.out | apply below_alloc | apply pw_below_drewN | apply below_drew1) | exact HB.out)) | exact Glob.drawn HG.out (by repeat (first | exact Drawn0.refl _ | apply Drawn0.step))); (case side2 => repeat (first | exact (Kd.R_reads' HO_8.out).2.2 | (with_reducible refine Kd.C_alloc ?_ _) | (with_reducible refine Kd.C_drewN ?_ _) | (with_reducible refine Kd.C_drew ?_))); (case side3 => exact (Kd.R_reads' HO_8.out).2.1); rintro e w38 ⟨rfl, hb⟩; refine ⟨_, rfl, ?_⟩; have n0_ := Aside0.mk (Kd.R_below (by (with_reducible repeat (first | apply Kd.R_alloc | apply Kd.R_drewN | apply Kd.R_drew)); exact HO_8.out) hb); have n1_ := Aside0.mk (Kd.R_below (by (with_reducible repeat (first | apply Kd.R_alloc | apply Kd.R_drewN | apply Kd.R_drew)); exact HO_9.out) hb); have n2_ := Aside0.mk (Kd.R_below (by (with_reducible repeat (first | apply Kd.R_alloc | apply Kd.R_drewN | apply Kd.R_drew)); exact HO_10.out) hb); have n3_ := Aside0.mk (below_step (by repeat (first | (with_reducible first | exact HB.out | apply below_alloc | apply pw_below_drewN | apply below_drew1) | exact HB.out)) hb); clear HO_8; clear HO_9; clear HO_10; clear HB; have HO_8 := n0_; have HO_9 := n1_; have HO_10 := n2_; have HB := n3_; clear n0_ n1_ n2_ n3_; (try clear hb); (try clear hb2); (try clear hk); (try clear hi)) | ((with_reducible refine gate_callee (f := 25) rfl ?_); refine goesL_ (some 57) rfl rfl Tryd.func25 (by kernel_rfl) rfl #[.slice Ao12 t102.length co12, .int .i64 x12_2] rfl (by (try simp only [List.map_toArray, List.map_cons, List.map_nil]); first | done | rfl | (simp only [List.length_drop, List.length_take]; rfl)) ?_; (with_reducible refine (place_Where.calls k2 _ _ t102 x12_2 t114 t115 _ ?side1 ?side2 ?side3 A21.out).mono ?_); (case side1 => first | (with_reducible exact HG.out) | exact Glob.below HG.out (by repeat (first | (with_reducible first | exact HB.out | apply below_alloc | apply pw_below_drewN | apply below_drew1) | exact HB.out)) | exact Glob.drawn HG.out (by repeat (first | exact Drawn0.refl _ | apply Drawn0.step))); (case side2 => repeat (first | exact (Kd.R_reads' HO_8.out).2.2 | (with_reducible refine Kd.C_alloc ?_ _) | (with_reducible refine Kd.C_drewN ?_ _) | (with_reducible refine Kd.C_drew ?_))); (case side3 => exact (Kd.R_reads' HO_8.out).2.1); rintro e w39 ⟨rfl, hb⟩; refine ⟨_, rfl, ?_⟩; have n0_ := Aside0.mk (Kd.R_below (by (with_reducible repeat (first | apply Kd.R_alloc | apply Kd.R_drewN | apply Kd.R_drew)); exact HO_8.out) hb); have n1_ := Aside0.mk (Kd.R_below (by (with_reducible repeat (first | apply Kd.R_alloc | apply Kd.R_drewN | apply Kd.R_drew)); exact HO_9.out) hb); have n2_ := Aside0.mk (Kd.R_below (by (with_reducible repeat (first | apply Kd.R_alloc | apply Kd.R_drewN | apply Kd.R_drew)); exact HO_10.out) hb); have n3_ := Aside0.mk (below_step (by repeat (first | (with_reducible first | exact HB.out | apply below_alloc | apply pw_below_drewN | apply below_drew1) | exact HB.out)) hb); clear HO_8; clear HO_9; clear HO_10; clear HB; have HO_8 := n0_; have HO_9 := n1_; have HO_10 := n2_; have HB := n3_; clear n0_ n1_ n2_ n3_; (try clear hb); (try clear hb2); (try clear hk); (try clear hi); (try clear A21)) | ((with_reducible refine gate_callee (f := 25) rfl ?_); refine goesL_ (some 63) rfl rfl Tryd.func25 (by kernel_rfl) rfl #[.slice Ao15 t106.length co15, .int .i64 t114] rfl (by (try simp only [List.map_toArray, List.map_cons, List.map_nil]); first | done | rfl | (simp only [List.length_drop, List.length_take]; rfl)) ?_; (with_reducible refine (place_Where.calls k2 _ _ t106 t114 t116 t117 _ ?side1 ?side2 ?side3 A22.out).mono ?_); (case side1 => first | (with_reducible exact HG.out) | exact Glob.below HG.out (by repeat (first | (with_reducible first | exact HB.out | apply below_alloc | apply pw_below_drewN | apply below_drew1) | exact HB.out)) | exact Glob.drawn HG.out (by repeat (first | exact Drawn0.refl _ | apply Drawn0.step))); (case side2 => repeat (first | exact (Kd.R_reads' HO_9.out).2.2 | (with_reducible refine Kd.C_alloc ?_ _) | (with_reducible refine Kd.C_drewN ?_ _) | (with_reducible refine Kd.C_drew ?_))); (case side3 => exact (Kd.R_reads' HO_9.out).2.1); rintro e w40 ⟨rfl, hb⟩; refine ⟨_, rfl, ?_⟩; have n0_ := Aside0.mk (Kd.R_below (by (with_reducible repeat (first | apply Kd.R_alloc | apply Kd.R_drewN | apply Kd.R_drew)); exact HO_8.out) hb); have n1_ := Aside0.mk (Kd.R_below (by (with_reducible repeat (first | apply Kd.R_alloc | apply Kd.R_drewN | apply Kd.R_drew)); exact HO_9.out) hb); have n2_ := Aside0.mk (Kd.R_below (by (with_reducible repeat (first | apply Kd.R_alloc | apply Kd.R_drewN | apply Kd.R_drew)); exact HO_10.out) hb); have n3_ := Aside0.mk (below_step (by repeat (first | (with_reducible first | exact HB.out | apply below_alloc | apply pw_below_drewN | apply below_drew1) | exact HB.out)) hb); clear HO_8; clear HO_9; clear HO_10; clear HB; have HO_8 := n0_; have HO_9 := n1_; have HO_10 := n2_; have HB := n3_; clear n0_ n1_ n2_ n3_; (try clear hb); (try clear hb2); (try clear hk); (try clear hi); obtain ⟨Ao41, co41, eo41⟩ := Kd.R_slice HO_10.out; subst eo41; (try clear A22)) | ((with_reducible refine gate_callee (f := 25) rfl ?_); refine goesL_ (some 69) rfl rfl Tryd.func25 (by kernel_rfl) rfl #[.slice Ao41 t109.length co41, .int .i64 x12_2] rfl (by (try simp only [List.map_toArray, List.map_cons, List.map_nil]); first | done | rfl | (simp only [List.length_drop, List.length_take]; rfl)) ?_; (with_reducible refine (place_Where.calls k2 _ _ t109 x12_2 t118 t119 _ ?side1 ?side2 ?side3 A23.out).mono ?_); (case side1 => first | (with_reducible exact HG.out) | exact Glob.below HG.out (by repeat (first | (with_reducible first | exact HB.out | apply below_alloc | apply pw_below_drewN | apply below_drew1) | exact HB.out)) | exact Glob.drawn HG.out (by repeat (first | exact Drawn0.refl _ | apply Drawn0.step))); (case side2 => repeat (first | exact (Kd.R_reads' HO_10.out).2.2 | (with_reducible refine Kd.C_alloc ?_ _) | (with_reducible refine Kd.C_drewN ?_ _) | (with_reducible refine Kd.C_drew ?_))); (case side3 => exact (Kd.R_reads' HO_10.out).2.1); rintro e w42 ⟨rfl, hb⟩; refine ⟨_, rfl, ?_⟩; have n0_ := Aside0.mk (Kd.R_below (by (with_reducible repeat (first | apply Kd.R_alloc | apply Kd.R_drewN | apply Kd.R_drew)); exact HO_8.out) hb); have n1_ := Aside0.mk (Kd.R_below (by (with_reducible repeat (first | apply Kd.R_alloc | apply Kd.R_drewN | apply Kd.R_drew)); exact HO_9.out) hb); have n2_ := Aside0.mk (Kd.R_below (by (with_reducible repeat (first | apply Kd.R_alloc | apply Kd.R_drewN | apply Kd.R_drew)); exact HO_10.out) hb); have n3_ := Aside0.mk (below_step (by repeat (first | (with_reducible first | exact HB.out | apply below_alloc | apply pw_below_drewN | apply below_drew1) | exact HB.out)) hb); clear HO_8; clear HO_9; clear HO_10; clear HB; have HO_8 := n0_; have HO_9 := n1_; have HO_10 := n2_; have HB := n3_; clear n0_ n1_ n2_ n3_; (try clear hb); (try clear hb2); (try clear hk); (try clear hi); (try clear A23)))
                    go_ret
                    exact ⟨by first | rfl | (simp [errW_none, errW_some] <;> rfl) | (simp [*, errW_none, errW_some] <;> rfl), by repeat (first | (with_reducible first | exact HB.out | apply below_alloc | apply pw_below_drewN | apply below_drew1) | exact HB.out)⟩
                · rw [if_neg c25] at H
                  have c25b0 : (t117 == 0) = false := beq_eq_false_iff_ne.mpr c25
                  have c25b1 : (t117 != 0) = true := bne_iff_ne.mpr c25
                  obtain rfl := Option.some.inj H
                  go_wp2_with (first | ((with_reducible refine gate_callee (f := 20) rfl ?_); refine goesL_ (some 50) rfl rfl Tryd.func20 (by kernel_rfl) rfl #[.slice Ao12 t102.length co12] rfl (by (try simp only [List.map_toArray, List.map_cons, List.map_nil]); first | done | rfl | (simp only [List.length_drop, List.length_take]; rfl)) ?_; (with_reducible refine (op_In.calls k2 _ _ t102 t113 _ ?side1 ?side2 ?side3 A19.out).mono ?_); (case side1 => first | (with_reducible exact HG.out) | exact Glob.below HG.out (by repeat (first | (with_reducible first | exact HB.out | apply below_alloc | apply pw_below_drewN | apply below_drew1) | exact HB.out)) | exact Glob.drawn HG.out (by repeat (first | exact Drawn0.refl _ | apply Drawn0.step))); (case side2 => repeat (first | exact (Kd.R_reads' HO_8.out).2.2 | (with_reducible refine Kd.C_alloc ?_ _) | (with_reducible refine Kd.C_drewN ?_ _) | (with_reducible refine Kd.C_drew ?_))); (case side3 => exact (Kd.R_reads' HO_8.out).2.1); rintro e w43 ⟨rfl, hb⟩; refine ⟨_, rfl, ?_⟩; have n0_ := Aside0.mk (Kd.R_below (by (with_reducible repeat (first | apply Kd.R_alloc | apply Kd.R_drewN | apply Kd.R_drew)); exact HO_8.out) hb); have n1_ := Aside0.mk (Kd.R_below (by (with_reducible repeat (first | apply Kd.R_alloc | apply Kd.R_drewN | apply Kd.R_drew)); exact HO_9.out) hb); have n2_ := Aside0.mk (Kd.R_below (by (with_reducible repeat (first | apply Kd.R_alloc | apply Kd.R_drewN | apply Kd.R_drew)); exact HO_10.out) hb); have n3_ := Aside0.mk (below_step (by repeat (first | (with_reducible first | exact HB.out | apply below_alloc | apply pw_below_drewN | apply below_drew1) | exact HB.out)) hb); clear HO_8; clear HO_9; clear HO_10; clear HB; have HO_8 := n0_; have HO_9 := n1_; have HO_10 := n2_; have HB := n3_; clear n0_ n1_ n2_ n3_; (try clear hb); (try clear hb2); (try clear hk); (try clear hi)) | ((with_reducible refine gate_callee (f := 25) rfl ?_); refine goesL_ (some 57) rfl rfl Tryd.func25 (by kernel_rfl) rfl #[.slice Ao12 t102.length co12, .int .i64 x12_2] rfl (by (try simp only [List.map_toArray, List.map_cons, List.map_nil]); first | done | rfl | (simp only [List.length_drop, List.length_take]; rfl)) ?_; (with_reducible refine (place_Where.calls k2 _ _ t102 x12_2 t114 t115 _ ?side1 ?side2 ?side3 A21.out).mono ?_); (case side1 => first | (with_reducible exact HG.out) | exact Glob.below HG.out (by repeat (first | (with_reducible first | exact HB.out | apply below_alloc | apply pw_below_drewN | apply below_drew1) | exact HB.out)) | exact Glob.drawn HG.out (by repeat (first | exact Drawn0.refl _ | apply Drawn0.step))); (case side2 => repeat (first | exact (Kd.R_reads' HO_8.out).2.2 | (with_reducible refine Kd.C_alloc ?_ _) | (with_reducible refine Kd.C_drewN ?_ _) | (with_reducible refine Kd.C_drew ?_))); (case side3 => exact (Kd.R_reads' HO_8.out).2.1); rintro e w44 ⟨rfl, hb⟩; refine ⟨_, rfl, ?_⟩; have n0_ := Aside0.mk (Kd.R_below (by (with_reducible repeat (first | apply Kd.R_alloc | apply Kd.R_drewN | apply Kd.R_drew)); exact HO_8.out) hb); have n1_ := Aside0.mk (Kd.R_below (by (with_reducible repeat (first | apply Kd.R_alloc | apply Kd.R_drewN | apply Kd.R_drew)); exact HO_9.out) hb); have n2_ := Aside0.mk (Kd.R_below (by (with_reducible repeat (first | apply Kd.R_alloc | apply Kd.R_drewN | apply Kd.R_drew)); exact HO_10.out) hb); have n3_ := Aside0.mk (below_step (by repeat (first | (with_reducible first | exact HB.out | apply below_alloc | apply pw_below_drewN | apply below_drew1) | exact HB.out)) hb); clear HO_8; clear HO_9; clear HO_10; clear HB; have HO_8 := n0_; have HO_9 := n1_; have HO_10 := n2_; have HB := n3_; clear n0_ n1_ n2_ n3_; (try clear hb); (try clear hb2); (try clear hk); (try clear hi); (try clear A21)) | ((with_reducible refine gate_callee (f := 25) rfl ?_); refine goesL_ (some 63) rfl rfl Tryd.func25 (by kernel_rfl) rfl #[.slice Ao15 t106.length co15, .int .i64 t114] rfl (by (try simp only [List.map_toArray, List.map_cons, List.map_nil]); first | done | rfl | (simp only [List.length_drop, List.length_take]; rfl)) ?_; (with_reducible refine (place_Where.calls k2 _ _ t106 t114 t116 t117 _ ?side1 ?side2 ?side3 A22.out).mono ?_); (case side1 => first | (with_reducible exact HG.out) | exact Glob.below HG.out (by repeat (first | (with_reducible first | exact HB.out | apply below_alloc | apply pw_below_drewN | apply below_drew1) | exact HB.out)) | exact Glob.drawn HG.out (by repeat (first | exact Drawn0.refl _ | apply Drawn0.step))); (case side2 => repeat (first | exact (Kd.R_reads' HO_9.out).2.2 | (with_reducible refine Kd.C_alloc ?_ _) | (with_reducible refine Kd.C_drewN ?_ _) | (with_reducible refine Kd.C_drew ?_))); (case side3 => exact (Kd.R_reads' HO_9.out).2.1); rintro e w45 ⟨rfl, hb⟩; refine ⟨_, rfl, ?_⟩; have n0_ := Aside0.mk (Kd.R_below (by (with_reducible repeat (first | apply Kd.R_alloc | apply Kd.R_drewN | apply Kd.R_drew)); exact HO_8.out) hb); have n1_ := Aside0.mk (Kd.R_below (by (with_reducible repeat (first | apply Kd.R_alloc | apply Kd.R_drewN | apply Kd.R_drew)); exact HO_9.out) hb); have n2_ := Aside0.mk (Kd.R_below (by (with_reducible repeat (first | apply Kd.R_alloc | apply Kd.R_drewN | apply Kd.R_drew)); exact HO_10.out) hb); have n3_ := Aside0.mk (below_step (by repeat (first | (with_reducible first | exact HB.out | apply below_alloc | apply pw_below_drewN | apply below_drew1) | exact HB.out)) hb); clear HO_8; clear HO_9; clear HO_10; clear HB; have HO_8 := n0_; have HO_9 := n1_; have HO_10 := n2_; have HB := n3_; clear n0_ n1_ n2_ n3_; (try clear hb); (try clear hb2); (try clear hk); (try clear hi); obtain ⟨Ao46, co46, eo46⟩ := Kd.R_slice HO_10.out; subst eo46; (try clear A22)) | ((with_reducible refine gate_callee (f := 25) rfl ?_); refine goesL_ (some 69) rfl rfl Tryd.func25 (by kernel_rfl) rfl #[.slice Ao46 t109.length co46, .int .i64 x12_2] rfl (by (try simp only [List.map_toArray, List.map_cons, List.map_nil]); first | done | rfl | (simp only [List.length_drop, List.length_take]; rfl)) ?_; (with_reducible refine (place_Where.calls k2 _ _ t109 x12_2 t118 t119 _ ?side1 ?side2 ?side3 A23.out).mono ?_); (case side1 => first | (with_reducible exact HG.out) | exact Glob.below HG.out (by repeat (first | (with_reducible first | exact HB.out | apply below_alloc | apply pw_below_drewN | apply below_drew1) | exact HB.out)) | exact Glob.drawn HG.out (by repeat (first | exact Drawn0.refl _ | apply Drawn0.step))); (case side2 => repeat (first | exact (Kd.R_reads' HO_10.out).2.2 | (with_reducible refine Kd.C_alloc ?_ _) | (with_reducible refine Kd.C_drewN ?_ _) | (with_reducible refine Kd.C_drew ?_))); (case side3 => exact (Kd.R_reads' HO_10.out).2.1); rintro e w47 ⟨rfl, hb⟩; refine ⟨_, rfl, ?_⟩; have n0_ := Aside0.mk (Kd.R_below (by (with_reducible repeat (first | apply Kd.R_alloc | apply Kd.R_drewN | apply Kd.R_drew)); exact HO_8.out) hb); have n1_ := Aside0.mk (Kd.R_below (by (with_reducible repeat (first | apply Kd.R_alloc | apply Kd.R_drewN | apply Kd.R_drew)); exact HO_9.out) hb); have n2_ := Aside0.mk (Kd.R_below (by (with_reducible repeat (first | apply Kd.R_alloc | apply Kd.R_drewN | apply Kd.R_drew)); exact HO_10.out) hb); have n3_ := Aside0.mk (below_step (by repeat (first | (with_reducible first | exact HB.out | apply below_alloc | apply pw_below_drewN | apply below_drew1) | exact HB.out)) hb); clear HO_8; clear HO_9; clear HO_10; clear HB; have HO_8 := n0_; have HO_9 := n1_; have HO_10 := n2_; have HB := n3_; clear n0_ n1_ n2_ n3_; (try clear hb); (try clear hb2); (try clear hk); (try clear hi); (try clear A23)))
                  go_ret
                  exact ⟨by first | rfl | (simp [errW_none, errW_some] <;> rfl) | (simp [*, errW_none, errW_some] <;> rfl), by repeat (first | (with_reducible first | exact HB.out | apply below_alloc | apply pw_below_drewN | apply below_drew1) | exact HB.out)⟩
              · rw [if_neg c24] at H
                have c24b0 : (t115 == 0) = false := beq_eq_false_iff_ne.mpr c24
                have c24b1 : (t115 != 0) = true := bne_iff_ne.mpr c24
                obtain rfl := Option.some.inj H
                go_wp2_with (first | ((with_reducible refine gate_callee (f := 20) rfl ?_); refine goesL_ (some 50) rfl rfl Tryd.func20 (by kernel_rfl) rfl #[.slice Ao12 t102.length co12] rfl (by (try simp only [List.map_toArray, List.map_cons, List.map_nil]); first | done | rfl | (simp only [List.length_drop, List.length_take]; rfl)) ?_; (with_reducible refine (op_In.calls k2 _ _ t102 t113 _ ?side1 ?side2 ?side3 A19.out).mono ?_); (case side1 => first | (with_reducible exact HG.out) | exact Glob.below HG.out (by repeat (first | (with_reducible first | exact HB.out | apply below_alloc | apply pw_below_drewN | apply below_drew1) | exact HB.out)) | exact Glob.drawn HG.out (by repeat (first | exact Drawn0.refl _ | apply Drawn0.step))); (case side2 => repeat (first | exact (Kd.R_reads' HO_8.out).2.2 | (with_reducible refine Kd.C_alloc ?_ _) | (with_reducible refine Kd.C_drewN ?_ _) | (with_reducible refine Kd.C_drew ?_))); (case side3 => exact (Kd.R_reads' HO_8.out).2.1); rintro e w48 ⟨rfl, hb⟩; refine ⟨_, rfl, ?_⟩; have n0_ := Aside0.mk (Kd.R_below (by (with_reducible repeat (first | apply Kd.R_alloc | apply Kd.R_drewN | apply Kd.R_drew)); exact HO_8.out) hb); have n1_ := Aside0.mk (Kd.R_below (by (with_reducible repeat (first | apply Kd.R_alloc | apply Kd.R_drewN | apply Kd.R_drew)); exact HO_9.out) hb); have n2_ := Aside0.mk (Kd.R_below (by (with_reducible repeat (first | apply Kd.R_alloc | apply Kd.R_drewN | apply Kd.R_drew)); exact HO_10.out) hb); have n3_ := Aside0.mk (below_step (by repeat (first | (with_reducible first | exact HB.out | apply below_alloc | apply pw_below_drewN | apply below_drew1) | exact HB.out)) hb); clear HO_8; clear HO_9; clear HO_10; clear HB; have HO_8 := n0_; have HO_9 := n1_; have HO_10 := n2_; have HB := n3_; clear n0_ n1_ n2_ n3_; (try clear hb); (try clear hb2); (try clear hk); (try clear hi)) | ((with_reducible refine gate_callee (f := 25) rfl ?_); refine goesL_ (some 57) rfl rfl Tryd.func25 (by kernel_rfl) rfl #[.slice Ao12 t102.length co12, .int .i64 x12_2] rfl (by (try simp only [List.map_toArray, List.map_cons, List.map_nil]); first | done | rfl | (simp only [List.length_drop, List.length_take]; rfl)) ?_; (with_reducible refine (place_Where.calls k2 _ _ t102 x12_2 t114 t115 _ ?side1 ?side2 ?side3 A21.out).mono ?_); (case side1 => first | (with_reducible exact HG.out) | exact Glob.below HG.out (by repeat (first | (with_reducible first | exact HB.out | apply below_alloc | apply pw_below_drewN | apply below_drew1) | exact HB.out)) | exact Glob.drawn HG.out (by repeat (first | exact Drawn0.refl _ | apply Drawn0.step))); (case side2 => repeat (first | exact (Kd.R_reads' HO_8.out).2.2 | (with_reducible refine Kd.C_alloc ?_ _) | (with_reducible refine Kd.C_drewN ?_ _) | (with_reducible refine Kd.C_drew ?_))); (case side3 => exact (Kd.R_reads' HO_8.out).2.1); rintro e w49 ⟨rfl, hb⟩; refine ⟨_, rfl, ?_⟩; have n0_ := Aside0.mk (Kd.R_below (by (with_reducible repeat (first | apply Kd.R_alloc | apply Kd.R_drewN | apply Kd.R_drew)); exact HO_8.out) hb); have n1_ := Aside0.mk (Kd.R_below (by (with_reducible repeat (first | apply Kd.R_alloc | apply Kd.R_drewN | apply Kd.R_drew)); exact HO_9.out) hb); have n2_ := Aside0.mk (Kd.R_below (by (with_reducible repeat (first | apply Kd.R_alloc | apply Kd.R_drewN | apply Kd.R_drew)); exact HO_10.out) hb); have n3_ := Aside0.mk (below_step (by repeat (first | (with_reducible first | exact HB.out | apply below_alloc | apply pw_below_drewN | apply below_drew1) | exact HB.out)) hb); clear HO_8; clear HO_9; clear HO_10; clear HB; have HO_8 := n0_; have HO_9 := n1_; have HO_10 := n2_; have HB := n3_; clear n0_ n1_ n2_ n3_; (try clear hb); (try clear hb2); (try clear hk); (try clear hi); (try clear A21)) | ((with_reducible refine gate_callee (f := 25) rfl ?_); refine goesL_ (some 63) rfl rfl Tryd.func25 (by kernel_rfl) rfl #[.slice Ao15 t106.length co15, .int .i64 t114] rfl (by (try simp only [List.map_toArray, List.map_cons, List.map_nil]); first | done | rfl | (simp only [List.length_drop, List.length_take]; rfl)) ?_; (with_reducible refine (place_Where.calls k2 _ _ t106 t114 t116 t117 _ ?side1 ?side2 ?side3 A22.out).mono ?_); (case side1 => first | (with_reducible exact HG.out) | exact Glob.below HG.out (by repeat (first | (with_reducible first | exact HB.out | apply below_alloc | apply pw_below_drewN | apply below_drew1) | exact HB.out)) | exact Glob.drawn HG.out (by repeat (first | exact Drawn0.refl _ | apply Drawn0.step))); (case side2 => repeat (first | exact (Kd.R_reads' HO_9.out).2.2 | (with_reducible refine Kd.C_alloc ?_ _) | (with_reducible refine Kd.C_drewN ?_ _) | (with_reducible refine Kd.C_drew ?_))); (case side3 => exact (Kd.R_reads' HO_9.out).2.1); rintro e w50 ⟨rfl, hb⟩; refine ⟨_, rfl, ?_⟩; have n0_ := Aside0.mk (Kd.R_below (by (with_reducible repeat (first | apply Kd.R_alloc | apply Kd.R_drewN | apply Kd.R_drew)); exact HO_8.out) hb); have n1_ := Aside0.mk (Kd.R_below (by (with_reducible repeat (first | apply Kd.R_alloc | apply Kd.R_drewN | apply Kd.R_drew)); exact HO_9.out) hb); have n2_ := Aside0.mk (Kd.R_below (by (with_reducible repeat (first | apply Kd.R_alloc | apply Kd.R_drewN | apply Kd.R_drew)); exact HO_10.out) hb); have n3_ := Aside0.mk (below_step (by repeat (first | (with_reducible first | exact HB.out | apply below_alloc | apply pw_below_drewN | apply below_drew1) | exact HB.out)) hb); clear HO_8; clear HO_9; clear HO_10; clear HB; have HO_8 := n0_; have HO_9 := n1_; have HO_10 := n2_; have HB := n3_; clear n0_ n1_ n2_ n3_; (try clear hb); (try clear hb2); (try clear hk); (try clear hi); obtain ⟨Ao51, co51, eo51⟩ := Kd.R_slice HO_10.out; subst eo51; (try clear A22)) | ((with_reducible refine gate_callee (f := 25) rfl ?_); refine goesL_ (some 69) rfl rfl Tryd.func25 (by kernel_rfl) rfl #[.slice Ao51 t109.length co51, .int .i64 x12_2] rfl (by (try simp only [List.map_toArray, List.map_cons, List.map_nil]); first | done | rfl | (simp only [List.length_drop, List.length_take]; rfl)) ?_; (with_reducible refine (place_Where.calls k2 _ _ t109 x12_2 t118 t119 _ ?side1 ?side2 ?side3 A23.out).mono ?_); (case side1 => first | (with_reducible exact HG.out) | exact Glob.below HG.out (by repeat (first | (with_reducible first | exact HB.out | apply below_alloc | apply pw_below_drewN | apply below_drew1) | exact HB.out)) | exact Glob.drawn HG.out (by repeat (first | exact Drawn0.refl _ | apply Drawn0.step))); (case side2 => repeat (first | exact (Kd.R_reads' HO_10.out).2.2 | (with_reducible refine Kd.C_alloc ?_ _) | (with_reducible refine Kd.C_drewN ?_ _) | (with_reducible refine Kd.C_drew ?_))); (case side3 => exact (Kd.R_reads' HO_10.out).2.1); rintro e w52 ⟨rfl, hb⟩; refine ⟨_, rfl, ?_⟩; have n0_ := Aside0.mk (Kd.R_below (by (with_reducible repeat (first | apply Kd.R_alloc | apply Kd.R_drewN | apply Kd.R_drew)); exact HO_8.out) hb); have n1_ := Aside0.mk (Kd.R_below (by (with_reducible repeat (first | apply Kd.R_alloc | apply Kd.R_drewN | apply Kd.R_drew)); exact HO_9.out) hb); have n2_ := Aside0.mk (Kd.R_below (by (with_reducible repeat (first | apply Kd.R_alloc | apply Kd.R_drewN | apply Kd.R_drew)); exact HO_10.out) hb); have n3_ := Aside0.mk (below_step (by repeat (first | (with_reducible first | exact HB.out | apply below_alloc | apply pw_below_drewN | apply below_drew1) | exact HB.out)) hb); clear HO_8; clear HO_9; clear HO_10; clear HB; have HO_8 := n0_; have HO_9 := n1_; have HO_10 := n2_; have HB := n3_; clear n0_ n1_ n2_ n3_; (try clear hb); (try clear hb2); (try clear hk); (try clear hi); (try clear A23)))
                go_ret
                exact ⟨by first | rfl | (simp [errW_none, errW_some] <;> rfl) | (simp [*, errW_none, errW_some] <;> rfl), by repeat (first | (with_reducible first | exact HB.out | apply below_alloc | apply pw_below_drewN | apply below_drew1) | exact HB.out)⟩
            · rw [if_neg c20] at H
              have c20b0 : decide (x12_2 ≤ t113) = false := decide_eq_false c20
              clear c20
              have H' := Aside0.mk H
              clear H
              go_wp2_with (first | ((with_reducible refine gate_callee (f := 20) rfl ?_); refine goesL_ (some 50) rfl rfl Tryd.func20 (by kernel_rfl) rfl #[.slice Ao12 t102.length co12] rfl (by (try simp only [List.map_toArray, List.map_cons, List.map_nil]); first | done | rfl | (simp only [List.length_drop, List.length_take]; rfl)) ?_; (with_reducible refine (op_In.calls k2 _ _ t102 t113 _ ?side1 ?side2 ?side3 A19.out).mono ?_); (case side1 => first | (with_reducible exact HG.out) | exact Glob.below HG.out (by repeat (first | (with_reducible first | exact HB.out | apply below_alloc | apply pw_below_drewN | apply below_drew1) | exact HB.out)) | exact Glob.drawn HG.out (by repeat (first | exact Drawn0.refl _ | apply Drawn0.step))); (case side2 => repeat (first | exact (Kd.R_reads' HO_8.out).2.2 | (with_reducible refine Kd.C_alloc ?_ _) | (with_reducible refine Kd.C_drewN ?_ _) | (with_reducible refine Kd.C_drew ?_))); (case side3 => exact (Kd.R_reads' HO_8.out).2.1); rintro e w53 ⟨rfl, hb⟩; refine ⟨_, rfl, ?_⟩; have n0_ := Aside0.mk (Kd.R_below (by (with_reducible repeat (first | apply Kd.R_alloc | apply Kd.R_drewN | apply Kd.R_drew)); exact HO_8.out) hb); have n1_ := Aside0.mk (Kd.R_below (by (with_reducible repeat (first | apply Kd.R_alloc | apply Kd.R_drewN | apply Kd.R_drew)); exact HO_9.out) hb); have n2_ := Aside0.mk (Kd.R_below (by (with_reducible repeat (first | apply Kd.R_alloc | apply Kd.R_drewN | apply Kd.R_drew)); exact HO_10.out) hb); have n3_ := Aside0.mk (below_step (by repeat (first | (with_reducible first | exact HB.out | apply below_alloc | apply pw_below_drewN | apply below_drew1) | exact HB.out)) hb); clear HO_8; clear HO_9; clear HO_10; clear HB; have HO_8 := n0_; have HO_9 := n1_; have HO_10 := n2_; have HB := n3_; clear n0_ n1_ n2_ n3_; (try clear hb); (try clear hb2); (try clear hk); (try clear hi)))
              go_loopg [19] k2 (fun kq v19 w' => ∃ (x19_3 : Int), v19 = .int .i64 x19_3 ∧ Aside0 (epitomelaw09_ComposeThrough.l1 kq t102 t106 t109 x19_3 = some r) ∧ Aside0 (kq ≤ k2) ∧ Aside0 (Kd.R k51 51 w' w.heap.size (fun k_ => some k_ ≠ ((.slice Ao15 t106.length co15) : Value).ownBlock ∧ some k_ ≠ (v111 : Value).ownBlock) (.slice Ao12 t102.length co12) t102) ∧ Aside0 (Kd.R k51 51 w' w.heap.size (fun k_ => some k_ ≠ ((.slice Ao12 t102.length co12) : Value).ownBlock ∧ some k_ ≠ (v111 : Value).ownBlock) (.slice Ao15 t106.length co15) t106) ∧ Aside0 (Kd.R k51 51 w' w.heap.size (fun k_ => some k_ ≠ ((.slice Ao12 t102.length co12) : Value).ownBlock ∧ some k_ ≠ ((.slice Ao15 t106.length co15) : Value).ownBlock) v111 t109) ∧ Aside0 (Below w.heap.size w w'))
              case atStart => exact ⟨(0), (by first | rfl | (simp; done) | (simp [*]; done)), H', ⟨Nat.le_refl _⟩, ⟨by (with_reducible repeat (first | apply Kd.R_alloc | apply Kd.R_drewN | apply Kd.R_drew)); exact HO_8.out⟩, ⟨by (with_reducible repeat (first | apply Kd.R_alloc | apply Kd.R_drewN | apply Kd.R_drew)); exact HO_9.out⟩, ⟨by (with_reducible repeat (first | apply Kd.R_alloc | apply Kd.R_drewN | apply Kd.R_drew)); exact HO_10.out⟩, ⟨by repeat (first | (with_reducible first | exact HB.out | apply below_alloc | apply pw_below_drewN | apply below_drew1) | exact HB.out)⟩⟩
              case round =>
                clear H'
                try clear c1
                try clear c2
                try clear p2
                try clear c3
                try clear p6
                try clear c13
                try clear c16
                try clear c17
                try clear c18
                try clear c20
                try clear c20b0
                try clear c21
                try clear c24
                try clear c24b0
                try clear c24b1
                try clear c25
                try clear c25b0
                try clear c25b1
                try clear c26
                try clear c26b0
                try clear c26b1
                try clear c27
                try clear c27b0
                try clear c27b1
                try clear c32
                try clear c33
                try clear p2
                try clear p6
                obtain ⟨x19_3, rfl, HA, HK3, HO_8, HO_9, HO_10, HB⟩ := hrel
                cases gk with
                | zero => exact absurd HA.out (by simp [epitomelaw09_ComposeThrough.l1])
                | succ k3 =>
                  have H := HA.out
                  clear HA
                  simp only [epitomelaw09_ComposeThrough.l1] at H
                  have HC54 := Aside0.mk H
                  clear H
                  go_upto_region 16 with (fail)
                  go_cut [94] (fun v94 wc => ∃ (kq : Nat) (x94_53 : Bool), v94 = .bool x94_53 ∧ Aside0 (epitomelaw09_ComposeThrough.j3 kq t102 t106 t109 x19_3 x94_53 = some r) ∧ Aside0 (kq ≤ k3) ∧ Aside0 (Kd.R k51 51 wc w.heap.size (fun k_ => some k_ ≠ ((.slice Ao15 t106.length co15) : Value).ownBlock ∧ some k_ ≠ (v111 : Value).ownBlock) (.slice Ao12 t102.length co12) t102) ∧ Aside0 (Kd.R k51 51 wc w.heap.size (fun k_ => some k_ ≠ ((.slice Ao12 t102.length co12) : Value).ownBlock ∧ some k_ ≠ (v111 : Value).ownBlock) (.slice Ao15 t106.length co15) t106) ∧ Aside0 (Kd.R k51 51 wc w.heap.size (fun k_ => some k_ ≠ ((.slice Ao12 t102.length co12) : Value).ownBlock ∧ some k_ ≠ ((.slice Ao15 t106.length co15) : Value).ownBlock) v111 t109) ∧ Aside0 (Below w.heap.size w wc))
                  case first =>
                    have H := HC54.out
                    clear HC54
                    replace H := Option.bind_eq_some_iff.mp H
                    obtain ⟨t120, A550, H⟩ := H
                    replace H : (if x19_3 ≤ t120 then (epitomelaw09_ComposeThrough.j3 k3 t102 t106 t109 x19_3 (decide (x19_3 < 200))) else (epitomelaw09_ComposeThrough.j3 k3 t102 t106 t109 x19_3 false)) = some r := H
                    have A55 := Aside0.mk A550
                    clear A550
                    by_cases c56 : x19_3 ≤ t120
                    · rw [if_pos c56] at H
                      have c56b0 : decide (x19_3 ≤ t120) = true := decide_eq_true c56
                      clear c56
                      (first | rw [c56b0] | (simp only [i64_w, i32_w]; rw [c56b0]) | skip)
                      have H' := Aside0.mk H
                      clear H
                      go_wp2_with (first | ((with_reducible refine gate_callee (f := 21) rfl ?_); refine goesL_ (some 89) rfl rfl Tryd.func21 (by kernel_rfl) rfl #[.slice Ao15 t106.length co15] rfl (by (try simp only [List.map_toArray, List.map_cons, List.map_nil]); first | done | rfl | (simp only [List.length_drop, List.length_take]; rfl)) ?_; (with_reducible refine (op_Out.calls k3 _ _ t106 t120 _ ?side1 ?side2 ?side3 A55.out).mono ?_); (case side1 => first | (with_reducible exact HG.out) | exact Glob.below HG.out (by repeat (first | (with_reducible first | exact HB.out | apply below_alloc | apply pw_below_drewN | apply below_drew1) | exact HB.out)) | exact Glob.drawn HG.out (by repeat (first | exact Drawn0.refl _ | apply Drawn0.step))); (case side2 => repeat (first | exact (Kd.R_reads' HO_9.out).2.2 | (with_reducible refine Kd.C_alloc ?_ _) | (with_reducible refine Kd.C_drewN ?_ _) | (with_reducible refine Kd.C_drew ?_))); (case side3 => exact (Kd.R_reads' HO_9.out).2.1); rintro e w57 ⟨rfl, hb⟩; refine ⟨_, rfl, ?_⟩; have n0_ := Aside0.mk (Kd.R_below (by (with_reducible repeat (first | apply Kd.R_alloc | apply Kd.R_drewN | apply Kd.R_drew)); exact HO_8.out) hb); have n1_ := Aside0.mk (Kd.R_below (by (with_reducible repeat (first | apply Kd.R_alloc | apply Kd.R_drewN | apply Kd.R_drew)); exact HO_9.out) hb); have n2_ := Aside0.mk (Kd.R_below (by (with_reducible repeat (first | apply Kd.R_alloc | apply Kd.R_drewN | apply Kd.R_drew)); exact HO_10.out) hb); have n3_ := Aside0.mk (below_step (by repeat (first | (with_reducible first | exact HB.out | apply below_alloc | apply pw_below_drewN | apply below_drew1) | exact HB.out)) hb); clear HO_8; clear HO_9; clear HO_10; clear HB; have HO_8 := n0_; have HO_9 := n1_; have HO_10 := n2_; have HB := n3_; clear n0_ n1_ n2_ n3_; (try clear hb); (try clear hb2); (try clear hk); (try clear hi)))
                      go_meet
                      case rel => exact ⟨_, (decide (x19_3 < 200)), (by first | rfl | (simp; done) | (simp [*]; done)), H', ⟨by have := HJ8.out; have := HK2.out; have := HK3.out; first | omega | exact Nat.le_refl _⟩, ⟨by (with_reducible repeat (first | apply Kd.R_alloc | apply Kd.R_drewN | apply Kd.R_drew)); exact HO_8.out⟩, ⟨by (with_reducible repeat (first | apply Kd.R_alloc | apply Kd.R_drewN | apply Kd.R_drew)); exact HO_9.out⟩, ⟨by (with_reducible repeat (first | apply Kd.R_alloc | apply Kd.R_drewN | apply Kd.R_drew)); exact HO_10.out⟩, ⟨by repeat (first | (with_reducible first | exact HB.out | apply below_alloc | apply pw_below_drewN | apply below_drew1) | exact HB.out)⟩⟩
                    · rw [if_neg c56] at H
                      have c56b0 : decide (x19_3 ≤ t120) = false := decide_eq_false c56
                      clear c56
                      (first | rw [c56b0] | (simp only [i64_w, i32_w]; rw [c56b0]) | skip)
                      have H' := Aside0.mk H
                      clear H
                      go_wp2_with (first | ((with_reducible refine gate_callee (f := 21) rfl ?_); refine goesL_ (some 89) rfl rfl Tryd.func21 (by kernel_rfl) rfl #[.slice Ao15 t106.length co15] rfl (by (try simp only [List.map_toArray, List.map_cons, List.map_nil]); first | done | rfl | (simp only [List.length_drop, List.length_take]; rfl)) ?_; (with_reducible refine (op_Out.calls k3 _ _ t106 t120 _ ?side1 ?side2 ?side3 A55.out).mono ?_); (case side1 => first | (with_reducible exact HG.out) | exact Glob.below HG.out (by repeat (first | (with_reducible first | exact HB.out | apply below_alloc | apply pw_below_drewN | apply below_drew1) | exact HB.out)) | exact Glob.drawn HG.out (by repeat (first | exact Drawn0.refl _ | apply Drawn0.step))); (case side2 => repeat (first | exact (Kd.R_reads' HO_9.out).2.2 | (with_reducible refine Kd.C_alloc ?_ _) | (with_reducible refine Kd.C_drewN ?_ _) | (with_reducible refine Kd.C_drew ?_))); (case side3 => exact (Kd.R_reads' HO_9.out).2.1); rintro e w58 ⟨rfl, hb⟩; refine ⟨_, rfl, ?_⟩; have n0_ := Aside0.mk (Kd.R_below (by (with_reducible repeat (first | apply Kd.R_alloc | apply Kd.R_drewN | apply Kd.R_drew)); exact HO_8.out) hb); have n1_ := Aside0.mk (Kd.R_below (by (with_reducible repeat (first | apply Kd.R_alloc | apply Kd.R_drewN | apply Kd.R_drew)); exact HO_9.out) hb); have n2_ := Aside0.mk (Kd.R_below (by (with_reducible repeat (first | apply Kd.R_alloc | apply Kd.R_drewN | apply Kd.R_drew)); exact HO_10.out) hb); have n3_ := Aside0.mk (below_step (by repeat (first | (with_reducible first | exact HB.out | apply below_alloc | apply pw_below_drewN | apply below_drew1) | exact HB.out)) hb); clear HO_8; clear HO_9; clear HO_10; clear HB; have HO_8 := n0_; have HO_9 := n1_; have HO_10 := n2_; have HB := n3_; clear n0_ n1_ n2_ n3_; (try clear hb); (try clear hb2); (try clear hk); (try clear hi)))
                      go_meet
                      case rel => exact ⟨_, (false), (by first | rfl | (simp; done) | (simp [*]; done)), H', ⟨by have := HJ8.out; have := HK2.out; have := HK3.out; first | omega | exact Nat.le_refl _⟩, ⟨by (with_reducible repeat (first | apply Kd.R_alloc | apply Kd.R_drewN | apply Kd.R_drew)); exact HO_8.out⟩, ⟨by (with_reducible repeat (first | apply Kd.R_alloc | apply Kd.R_drewN | apply Kd.R_drew)); exact HO_9.out⟩, ⟨by (with_reducible repeat (first | apply Kd.R_alloc | apply Kd.R_drewN | apply Kd.R_drew)); exact HO_10.out⟩, ⟨by repeat (first | (with_reducible first | exact HB.out | apply below_alloc | apply pw_below_drewN | apply below_drew1) | exact HB.out)⟩⟩
                  case rest =>
                    clear HC54
                    try clear c1
                    try clear c2
                    try clear p2
                    try clear c3
                    try clear c5
                    try clear p6
                    try clear c13
                    try clear c16
                    try clear c17
                    try clear c18
                    try clear c20
                    try clear c20b0
                    try clear c21
                    try clear c24
                    try clear c24b0
                    try clear c24b1
                    try clear c25
                    try clear c25b0
                    try clear c25b1
                    try clear c26
                    try clear c26b0
                    try clear c26b1
                    try clear c27
                    try clear c27b0
                    try clear c27b1
                    try clear c32
                    try clear c33
                    try clear c56
                    try clear c56b0
                    try clear p2
                    try clear p6
                    obtain ⟨kq, x94_53, rfl, HA, HJ53, HO_8, HO_9, HO_10, HB⟩ := hcut
                    cases kq with
                    | zero => exact absurd HA.out (by simp [epitomelaw09_ComposeThrough.j3])
                    | succ kj53 =>
                      have H := HA.out
                      clear HA
                      simp only [epitomelaw09_ComposeThrough.j3] at H
                      by_cases c59 : x94_53 = true
                      · subst c59
                        have H1 : ((place_Least.f kj53 t106 x19_3).bind fun bt121 => ((place_Least.f kj53 t102 bt121.1).bind fun bt123 => ((place_Least.f kj53 t109 x19_3).bind fun bt125 => (if bt121.2 = 0 then (if bt123.2 = 0 then (if bt125.2 = 0 then (if bt123.1 = bt125.1 then (epitomelaw09_ComposeThrough.l1 kj53 t102 t106 t109 (wrap64 (x19_3 + 1))) else (some false)) else (some false)) else (some false)) else (some false))))) = some r := by rw [if_pos rfl] at H; exact H
                        clear H
                        have H := H1
                        clear H1
                        replace H := Option.bind_eq_some_iff.mp H
                        obtain ⟨⟨t121, t122⟩, A600, H⟩ := H
                        replace H : ((place_Least.f kj53 t102 t121).bind fun bt123 => ((place_Least.f kj53 t109 x19_3).bind fun bt125 => (if t122 = 0 then (if bt123.2 = 0 then (if bt125.2 = 0 then (if bt123.1 = bt125.1 then (epitomelaw09_ComposeThrough.l1 kj53 t102 t106 t109 (wrap64 (x19_3 + 1))) else (some false)) else (some false)) else (some false)) else (some false)))) = some r := H
                        have A60 := Aside0.mk A600
                        clear A600
                        replace H := Option.bind_eq_some_iff.mp H
                        obtain ⟨⟨t123, t124⟩, A610, H⟩ := H
                        replace H : ((place_Least.f kj53 t109 x19_3).bind fun bt125 => (if t122 = 0 then (if t124 = 0 then (if bt125.2 = 0 then (if t123 = bt125.1 then (epitomelaw09_ComposeThrough.l1 kj53 t102 t106 t109 (wrap64 (x19_3 + 1))) else (some false)) else (some false)) else (some false)) else (some false))) = some r := H
                        have A61 := Aside0.mk A610
                        clear A610
                        replace H := Option.bind_eq_some_iff.mp H
                        obtain ⟨⟨t125, t126⟩, A620, H⟩ := H
                        replace H : (if t122 = 0 then (if t124 = 0 then (if t126 = 0 then (if t123 = t125 then (epitomelaw09_ComposeThrough.l1 kj53 t102 t106 t109 (wrap64 (x19_3 + 1))) else (some false)) else (some false)) else (some false)) else (some false)) = some r := H
                        have A62 := Aside0.mk A620
                        clear A620
                        by_cases c63 : t122 = 0
                        · rw [if_pos c63] at H
                          have c63b0 : (t122 == 0) = true := beq_iff_eq.mpr c63
                          have c63b1 : (t122 != 0) = false := bne_eq_false_iff_eq.mpr c63
                          clear c63
                          by_cases c64 : t124 = 0
                          · rw [if_pos c64] at H
                            have c64b0 : (t124 == 0) = true := beq_iff_eq.mpr c64
                            have c64b1 : (t124 != 0) = false := bne_eq_false_iff_eq.mpr c64
                            clear c64
                            by_cases c65 : t126 = 0
                            · rw [if_pos c65] at H
                              have c65b0 : (t126 == 0) = true := beq_iff_eq.mpr c65
                              have c65b1 : (t126 != 0) = false := bne_eq_false_iff_eq.mpr c65
                              clear c65
                              by_cases c66 : t123 = t125
                              · rw [if_pos c66] at H
                                have c66b0 : (t123 == t125) = true := beq_iff_eq.mpr c66
                                have c66b1 : (t123 != t125) = false := bne_eq_false_iff_eq.mpr c66
                                clear c66
                                have H' := Aside0.mk H
                                clear H
                                go_wp2_with (first | ((with_reducible refine gate_callee (f := 27) rfl ?_); refine goesL_ (some 100) rfl rfl Tryd.func27 (by kernel_rfl) rfl #[.slice Ao15 t106.length co15, .int .i64 x19_3] rfl (by (try simp only [List.map_toArray, List.map_cons, List.map_nil]); first | done | rfl | (simp only [List.length_drop, List.length_take]; rfl)) ?_; (with_reducible refine (place_Least.calls kj53 _ _ t106 x19_3 t121 t122 _ ?side1 ?side2 ?side3 A60.out).mono ?_); (case side1 => first | (with_reducible exact HG.out) | exact Glob.below HG.out (by repeat (first | (with_reducible first | exact HB.out | apply below_alloc | apply pw_below_drewN | apply below_drew1) | exact HB.out)) | exact Glob.drawn HG.out (by repeat (first | exact Drawn0.refl _ | apply Drawn0.step))); (case side2 => repeat (first | exact (Kd.R_reads' HO_9.out).2.2 | (with_reducible refine Kd.C_alloc ?_ _) | (with_reducible refine Kd.C_drewN ?_ _) | (with_reducible refine Kd.C_drew ?_))); (case side3 => exact (Kd.R_reads' HO_9.out).2.1); rintro e w67 ⟨rfl, hb⟩; refine ⟨_, rfl, ?_⟩; have n0_ := Aside0.mk (Kd.R_below (by (with_reducible repeat (first | apply Kd.R_alloc | apply Kd.R_drewN | apply Kd.R_drew)); exact HO_8.out) hb); have n1_ := Aside0.mk (Kd.R_below (by (with_reducible repeat (first | apply Kd.R_alloc | apply Kd.R_drewN | apply Kd.R_drew)); exact HO_9.out) hb); have n2_ := Aside0.mk (Kd.R_below (by (with_reducible repeat (first | apply Kd.R_alloc | apply Kd.R_drewN | apply Kd.R_drew)); exact HO_10.out) hb); have n3_ := Aside0.mk (below_step (by repeat (first | (with_reducible first | exact HB.out | apply below_alloc | apply pw_below_drewN | apply below_drew1) | exact HB.out)) hb); clear HO_8; clear HO_9; clear HO_10; clear HB; have HO_8 := n0_; have HO_9 := n1_; have HO_10 := n2_; have HB := n3_; clear n0_ n1_ n2_ n3_; (try clear hb); (try clear hb2); (try clear hk); (try clear hi); (try clear A60)) | ((with_reducible refine gate_callee (f := 27) rfl ?_); refine goesL_ (some 106) rfl rfl Tryd.func27 (by kernel_rfl) rfl #[.slice Ao12 t102.length co12, .int .i64 t121] rfl (by (try simp only [List.map_toArray, List.map_cons, List.map_nil]); first | done | rfl | (simp only [List.length_drop, List.length_take]; rfl)) ?_; (with_reducible refine (place_Least.calls kj53 _ _ t102 t121 t123 t124 _ ?side1 ?side2 ?side3 A61.out).mono ?_); (case side1 => first | (with_reducible exact HG.out) | exact Glob.below HG.out (by repeat (first | (with_reducible first | exact HB.out | apply below_alloc | apply pw_below_drewN | apply below_drew1) | exact HB.out)) | exact Glob.drawn HG.out (by repeat (first | exact Drawn0.refl _ | apply Drawn0.step))); (case side2 => repeat (first | exact (Kd.R_reads' HO_8.out).2.2 | (with_reducible refine Kd.C_alloc ?_ _) | (with_reducible refine Kd.C_drewN ?_ _) | (with_reducible refine Kd.C_drew ?_))); (case side3 => exact (Kd.R_reads' HO_8.out).2.1); rintro e w68 ⟨rfl, hb⟩; refine ⟨_, rfl, ?_⟩; have n0_ := Aside0.mk (Kd.R_below (by (with_reducible repeat (first | apply Kd.R_alloc | apply Kd.R_drewN | apply Kd.R_drew)); exact HO_8.out) hb); have n1_ := Aside0.mk (Kd.R_below (by (with_reducible repeat (first | apply Kd.R_alloc | apply Kd.R_drewN | apply Kd.R_drew)); exact HO_9.out) hb); have n2_ := Aside0.mk (Kd.R_below (by (with_reducible repeat (first | apply Kd.R_alloc | apply Kd.R_drewN | apply Kd.R_drew)); exact HO_10.out) hb); have n3_ := Aside0.mk (below_step (by repeat (first | (with_reducible first | exact HB.out | apply below_alloc | apply pw_below_drewN | apply below_drew1) | exact HB.out)) hb); clear HO_8; clear HO_9; clear HO_10; clear HB; have HO_8 := n0_; have HO_9 := n1_; have HO_10 := n2_; have HB := n3_; clear n0_ n1_ n2_ n3_; (try clear hb); (try clear hb2); (try clear hk); (try clear hi); obtain ⟨Ao69, co69, eo69⟩ := Kd.R_slice HO_10.out; subst eo69; (try clear A61)) | ((with_reducible refine gate_callee (f := 27) rfl ?_); refine goesL_ (some 112) rfl rfl Tryd.func27 (by kernel_rfl) rfl #[.slice Ao69 t109.length co69, .int .i64 x19_3] rfl (by (try simp only [List.map_toArray, List.map_cons, List.map_nil]); first | done | rfl | (simp only [List.length_drop, List.length_take]; rfl)) ?_; (with_reducible refine (place_Least.calls kj53 _ _ t109 x19_3 t125 t126 _ ?side1 ?side2 ?side3 A62.out).mono ?_); (case side1 => first | (with_reducible exact HG.out) | exact Glob.below HG.out (by repeat (first | (with_reducible first | exact HB.out | apply below_alloc | apply pw_below_drewN | apply below_drew1) | exact HB.out)) | exact Glob.drawn HG.out (by repeat (first | exact Drawn0.refl _ | apply Drawn0.step))); (case side2 => repeat (first | exact (Kd.R_reads' HO_10.out).2.2 | (with_reducible refine Kd.C_alloc ?_ _) | (with_reducible refine Kd.C_drewN ?_ _) | (with_reducible refine Kd.C_drew ?_))); (case side3 => exact (Kd.R_reads' HO_10.out).2.1); rintro e w70 ⟨rfl, hb⟩; refine ⟨_, rfl, ?_⟩; have n0_ := Aside0.mk (Kd.R_below (by (with_reducible repeat (first | apply Kd.R_alloc | apply Kd.R_drewN | apply Kd.R_drew)); exact HO_8.out) hb); have n1_ := Aside0.mk (Kd.R_below (by (with_reducible repeat (first | apply Kd.R_alloc | apply Kd.R_drewN | apply Kd.R_drew)); exact HO_9.out) hb); have n2_ := Aside0.mk (Kd.R_below (by (with_reducible repeat (first | apply Kd.R_alloc | apply Kd.R_drewN | apply Kd.R_drew)); exact HO_10.out) hb); have n3_ := Aside0.mk (below_step (by repeat (first | (with_reducible first | exact HB.out | apply below_alloc | apply pw_below_drewN | apply below_drew1) | exact HB.out)) hb); clear HO_8; clear HO_9; clear HO_10; clear HB; have HO_8 := n0_; have HO_9 := n1_; have HO_10 := n2_; have HB := n3_; clear n0_ n1_ n2_ n3_; (try clear hb); (try clear hb2); (try clear hk); (try clear hi); (try clear A62)))
                                go_roundg kj53
                                case measure => have := HJ8.out; have := HK2.out; have := HK3.out; have := HJ53.out; omega
                                case rel => exact ⟨(wrap64 (x19_3 + 1)), (by first | rfl | (simp; done) | (simp [*]; done)), H', ⟨by have := HJ8.out; have := HK2.out; have := HK3.out; have := HJ53.out; omega⟩, ⟨by (with_reducible repeat (first | apply Kd.R_alloc | apply Kd.R_drewN | apply Kd.R_drew)); exact HO_8.out⟩, ⟨by (with_reducible repeat (first | apply Kd.R_alloc | apply Kd.R_drewN | apply Kd.R_drew)); exact HO_9.out⟩, ⟨by (with_reducible repeat (first | apply Kd.R_alloc | apply Kd.R_drewN | apply Kd.R_drew)); exact HO_10.out⟩, ⟨by repeat (first | (with_reducible first | exact HB.out | apply below_alloc | apply pw_below_drewN | apply below_drew1) | exact HB.out)⟩⟩
                              · rw [if_neg c66] at H
                                have c66b0 : (t123 == t125) = false := beq_eq_false_iff_ne.mpr c66
                                have c66b1 : (t123 != t125) = true := bne_iff_ne.mpr c66
                                obtain rfl := Option.some.inj H
                                go_wp2_with (first | ((with_reducible refine gate_callee (f := 27) rfl ?_); refine goesL_ (some 100) rfl rfl Tryd.func27 (by kernel_rfl) rfl #[.slice Ao15 t106.length co15, .int .i64 x19_3] rfl (by (try simp only [List.map_toArray, List.map_cons, List.map_nil]); first | done | rfl | (simp only [List.length_drop, List.length_take]; rfl)) ?_; (with_reducible refine (place_Least.calls kj53 _ _ t106 x19_3 t121 t122 _ ?side1 ?side2 ?side3 A60.out).mono ?_); (case side1 => first | (with_reducible exact HG.out) | exact Glob.below HG.out (by repeat (first | (with_reducible first | exact HB.out | apply below_alloc | apply pw_below_drewN | apply below_drew1) | exact HB.out)) | exact Glob.drawn HG.out (by repeat (first | exact Drawn0.refl _ | apply Drawn0.step))); (case side2 => repeat (first | exact (Kd.R_reads' HO_9.out).2.2 | (with_reducible refine Kd.C_alloc ?_ _) | (with_reducible refine Kd.C_drewN ?_ _) | (with_reducible refine Kd.C_drew ?_))); (case side3 => exact (Kd.R_reads' HO_9.out).2.1); rintro e w71 ⟨rfl, hb⟩; refine ⟨_, rfl, ?_⟩; have n0_ := Aside0.mk (Kd.R_below (by (with_reducible repeat (first | apply Kd.R_alloc | apply Kd.R_drewN | apply Kd.R_drew)); exact HO_8.out) hb); have n1_ := Aside0.mk (Kd.R_below (by (with_reducible repeat (first | apply Kd.R_alloc | apply Kd.R_drewN | apply Kd.R_drew)); exact HO_9.out) hb); have n2_ := Aside0.mk (Kd.R_below (by (with_reducible repeat (first | apply Kd.R_alloc | apply Kd.R_drewN | apply Kd.R_drew)); exact HO_10.out) hb); have n3_ := Aside0.mk (below_step (by repeat (first | (with_reducible first | exact HB.out | apply below_alloc | apply pw_below_drewN | apply below_drew1) | exact HB.out)) hb); clear HO_8; clear HO_9; clear HO_10; clear HB; have HO_8 := n0_; have HO_9 := n1_; have HO_10 := n2_; have HB := n3_; clear n0_ n1_ n2_ n3_; (try clear hb); (try clear hb2); (try clear hk); (try clear hi); (try clear A60)) | ((with_reducible refine gate_callee (f := 27) rfl ?_); refine goesL_ (some 106) rfl rfl Tryd.func27 (by kernel_rfl) rfl #[.slice Ao12 t102.length co12, .int .i64 t121] rfl (by (try simp only [List.map_toArray, List.map_cons, List.map_nil]); first | done | rfl | (simp only [List.length_drop, List.length_take]; rfl)) ?_; (with_reducible refine (place_Least.calls kj53 _ _ t102 t121 t123 t124 _ ?side1 ?side2 ?side3 A61.out).mono ?_); (case side1 => first | (with_reducible exact HG.out) | exact Glob.below HG.out (by repeat (first | (with_reducible first | exact HB.out | apply below_alloc | apply pw_below_drewN | apply below_drew1) | exact HB.out)) | exact Glob.drawn HG.out (by repeat (first | exact Drawn0.refl _ | apply Drawn0.step))); (case side2 => repeat (first | exact (Kd.R_reads' HO_8.out).2.2 | (with_reducible refine Kd.C_alloc ?_ _) | (with_reducible refine Kd.C_drewN ?_ _) | (with_reducible refine Kd.C_drew ?_))); (case side3 => exact (Kd.R_reads' HO_8.out).2.1); rintro e w72 ⟨rfl, hb⟩; refine ⟨_, rfl, ?_⟩; have n0_ := Aside0.mk (Kd.R_below (by (with_reducible repeat (first | apply Kd.R_alloc | apply Kd.R_drewN | apply Kd.R_drew)); exact HO_8.out) hb); have n1_ := Aside0.mk (Kd.R_below (by (with_reducible repeat (first | apply Kd.R_alloc | apply Kd.R_drewN | apply Kd.R_drew)); exact HO_9.out) hb); have n2_ := Aside0.mk (Kd.R_below (by (with_reducible repeat (first | apply Kd.R_alloc | apply Kd.R_drewN | apply Kd.R_drew)); exact HO_10.out) hb); have n3_ := Aside0.mk (below_step (by repeat (first | (with_reducible first | exact HB.out | apply below_alloc | apply pw_below_drewN | apply below_drew1) | exact HB.out)) hb); clear HO_8; clear HO_9; clear HO_10; clear HB; have HO_8 := n0_; have HO_9 := n1_; have HO_10 := n2_; have HB := n3_; clear n0_ n1_ n2_ n3_; (try clear hb); (try clear hb2); (try clear hk); (try clear hi); obtain ⟨Ao73, co73, eo73⟩ := Kd.R_slice HO_10.out; subst eo73; (try clear A61)) | ((with_reducible refine gate_callee (f := 27) rfl ?_); refine goesL_ (some 112) rfl rfl Tryd.func27 (by kernel_rfl) rfl #[.slice Ao73 t109.length co73, .int .i64 x19_3] rfl (by (try simp only [List.map_toArray, List.map_cons, List.map_nil]); first | done | rfl | (simp only [List.length_drop, List.length_take]; rfl)) ?_; (with_reducible refine (place_Least.calls kj53 _ _ t109 x19_3 t125 t126 _ ?side1 ?side2 ?side3 A62.out).mono ?_); (case side1 => first | (with_reducible exact HG.out) | exact Glob.below HG.out (by repeat (first | (with_reducible first | exact HB.out | apply below_alloc | apply pw_below_drewN | apply below_drew1) | exact HB.out)) | exact Glob.drawn HG.out (by repeat (first | exact Drawn0.refl _ | apply Drawn0.step))); (case side2 => repeat (first | exact (Kd.R_reads' HO_10.out).2.2 | (with_reducible refine Kd.C_alloc ?_ _) | (with_reducible refine Kd.C_drewN ?_ _) | (with_reducible refine Kd.C_drew ?_))); (case side3 => exact (Kd.R_reads' HO_10.out).2.1); rintro e w74 ⟨rfl, hb⟩; refine ⟨_, rfl, ?_⟩; have n0_ := Aside0.mk (Kd.R_below (by (with_reducible repeat (first | apply Kd.R_alloc | apply Kd.R_drewN | apply Kd.R_drew)); exact HO_8.out) hb); have n1_ := Aside0.mk (Kd.R_below (by (with_reducible repeat (first | apply Kd.R_alloc | apply Kd.R_drewN | apply Kd.R_drew)); exact HO_9.out) hb); have n2_ := Aside0.mk (Kd.R_below (by (with_reducible repeat (first | apply Kd.R_alloc | apply Kd.R_drewN | apply Kd.R_drew)); exact HO_10.out) hb); have n3_ := Aside0.mk (below_step (by repeat (first | (with_reducible first | exact HB.out | apply below_alloc | apply pw_below_drewN | apply below_drew1) | exact HB.out)) hb); clear HO_8; clear HO_9; clear HO_10; clear HB; have HO_8 := n0_; have HO_9 := n1_; have HO_10 := n2_; have HB := n3_; clear n0_ n1_ n2_ n3_; (try clear hb); (try clear hb2); (try clear hk); (try clear hi); (try clear A62)))
                                go_ret
                                exact ⟨by first | rfl | (simp [errW_none, errW_some] <;> rfl) | (simp [*, errW_none, errW_some] <;> rfl), by repeat (first | (with_reducible first | exact HB.out | apply below_alloc | apply pw_below_drewN | apply below_drew1) | exact HB.out)⟩
                            · rw [if_neg c65] at H
                              have c65b0 : (t126 == 0) = false := beq_eq_false_iff_ne.mpr c65
                              have c65b1 : (t126 != 0) = true := bne_iff_ne.mpr c65
                              obtain rfl := Option.some.inj H
                              go_wp2_with (first | ((with_reducible refine gate_callee (f := 27) rfl ?_); refine goesL_ (some 100) rfl rfl Tryd.func27 (by kernel_rfl) rfl #[.slice Ao15 t106.length co15, .int .i64 x19_3] rfl (by (try simp only [List.map_toArray, List.map_cons, List.map_nil]); first | done | rfl | (simp only [List.length_drop, List.length_take]; rfl)) ?_; (with_reducible refine (place_Least.calls kj53 _ _ t106 x19_3 t121 t122 _ ?side1 ?side2 ?side3 A60.out).mono ?_); (case side1 => first | (with_reducible exact HG.out) | exact Glob.below HG.out (by repeat (first | (with_reducible first | exact HB.out | apply below_alloc | apply pw_below_drewN | apply below_drew1) | exact HB.out)) | exact Glob.drawn HG.out (by repeat (first | exact Drawn0.refl _ | apply Drawn0.step))); (case side2 => repeat (first | exact (Kd.R_reads' HO_9.out).2.2 | (with_reducible refine Kd.C_alloc ?_ _) | (with_reducible refine Kd.C_drewN ?_ _) | (with_reducible refine Kd.C_drew ?_))); (case side3 => exact (Kd.R_reads' HO_9.out).2.1); rintro e w75 ⟨rfl, hb⟩; refine ⟨_, rfl, ?_⟩; have n0_ := Aside0.mk (Kd.R_below (by (with_reducible repeat (first | apply Kd.R_alloc | apply Kd.R_drewN | apply Kd.R_drew)); exact HO_8.out) hb); have n1_ := Aside0.mk (Kd.R_below (by (with_reducible repeat (first | apply Kd.R_alloc | apply Kd.R_drewN | apply Kd.R_drew)); exact HO_9.out) hb); have n2_ := Aside0.mk (Kd.R_below (by (with_reducible repeat (first | apply Kd.R_alloc | apply Kd.R_drewN | apply Kd.R_drew)); exact HO_10.out) hb); have n3_ := Aside0.mk (below_step (by repeat (first | (with_reducible first | exact HB.out | apply below_alloc | apply pw_below_drewN | apply below_drew1) | exact HB.out)) hb); clear HO_8; clear HO_9; clear HO_10; clear HB; have HO_8 := n0_; have HO_9 := n1_; have HO_10 := n2_; have HB := n3_; clear n0_ n1_ n2_ n3_; (try clear hb); (try clear hb2); (try clear hk); (try clear hi); (try clear A60)) | ((with_reducible refine gate_callee (f := 27) rfl ?_); refine goesL_ (some 106) rfl rfl Tryd.func27 (by kernel_rfl) rfl #[.slice Ao12 t102.length co12, .int .i64 t121] rfl (by (try simp only [List.map_toArray, List.map_cons, List.map_nil]); first | done | rfl | (simp only [List.length_drop, List.length_take]; rfl)) ?_; (with_reducible refine (place_Least.calls kj53 _ _ t102 t121 t123 t124 _ ?side1 ?side2 ?side3 A61.out).mono ?_); (case side1 => first | (with_reducible exact HG.out) | exact Glob.below HG.out (by repeat (first | (with_reducible first | exact HB.out | apply below_alloc | apply pw_below_drewN | apply below_drew1) | exact HB.out)) | exact Glob.drawn HG.out (by repeat (first | exact Drawn0.refl _ | apply Drawn0.step))); (case side2 => repeat (first | exact (Kd.R_reads' HO_8.out).2.2 | (with_reducible refine Kd.C_alloc ?_ _) | (with_reducible refine Kd.C_drewN ?_ _) | (with_reducible refine Kd.C_drew ?_))); (case side3 => exact (Kd.R_reads' HO_8.out).2.1); rintro e w76 ⟨rfl, hb⟩; refine ⟨_, rfl, ?_⟩; have n0_ := Aside0.mk (Kd.R_below (by (with_reducible repeat (first | apply Kd.R_alloc | apply Kd.R_drewN | apply Kd.R_drew)); exact HO_8.out) hb); have n1_ := Aside0.mk (Kd.R_below (by (with_reducible repeat (first | apply Kd.R_alloc | apply Kd.R_drewN | apply Kd.R_drew)); exact HO_9.out) hb); have n2_ := Aside0.mk (Kd.R_below (by (with_reducible repeat (first | apply Kd.R_alloc | apply Kd.R_drewN | apply Kd.R_drew)); exact HO_10.out) hb); have n3_ := Aside0.mk (below_step (by repeat (first | (with_reducible first | exact HB.out | apply below_alloc | apply pw_below_drewN | apply below_drew1) | exact HB.out)) hb); clear HO_8; clear HO_9; clear HO_10; clear HB; have HO_8 := n0_; have HO_9 := n1_; have HO_10 := n2_; have HB := n3_; clear n0_ n1_ n2_ n3_; (try clear hb); (try clear hb2); (try clear hk); (try clear hi); obtain ⟨Ao77, co77, eo77⟩ := Kd.R_slice HO_10.out; subst eo77; (try clear A61)) | ((with_reducible refine gate_callee (f := 27) rfl ?_); refine goesL_ (some 112) rfl rfl Tryd.func27 (by kernel_rfl) rfl #[.slice Ao77 t109.length co77, .int .i64 x19_3] rfl (by (try simp only [List.map_toArray, List.map_cons, List.map_nil]); first | done | rfl | (simp only [List.length_drop, List.length_take]; rfl)) ?_; (with_reducible refine (place_Least.calls kj53 _ _ t109 x19_3 t125 t126 _ ?side1 ?side2 ?side3 A62.out).mono ?_); (case side1 => first | (with_reducible exact HG.out) | exact Glob.below HG.out (by repeat (first | (with_reducible first | exact HB.out | apply below_alloc | apply pw_below_drewN | apply below_drew1) | exact HB.out)) | exact Glob.drawn HG.out (by repeat (first | exact Drawn0.refl _ | apply Drawn0.step))); (case side2 => repeat (first | exact (Kd.R_reads' HO_10.out).2.2 | (with_reducible refine Kd.C_alloc ?_ _) | (with_reducible refine Kd.C_drewN ?_ _) | (with_reducible refine Kd.C_drew ?_))); (case side3 => exact (Kd.R_reads' HO_10.out).2.1); rintro e w78 ⟨rfl, hb⟩; refine ⟨_, rfl, ?_⟩; have n0_ := Aside0.mk (Kd.R_below (by (with_reducible repeat (first | apply Kd.R_alloc | apply Kd.R_drewN | apply Kd.R_drew)); exact HO_8.out) hb); have n1_ := Aside0.mk (Kd.R_below (by (with_reducible repeat (first | apply Kd.R_alloc | apply Kd.R_drewN | apply Kd.R_drew)); exact HO_9.out) hb); have n2_ := Aside0.mk (Kd.R_below (by (with_reducible repeat (first | apply Kd.R_alloc | apply Kd.R_drewN | apply Kd.R_drew)); exact HO_10.out) hb); have n3_ := Aside0.mk (below_step (by repeat (first | (with_reducible first | exact HB.out | apply below_alloc | apply pw_below_drewN | apply below_drew1) | exact HB.out)) hb); clear HO_8; clear HO_9; clear HO_10; clear HB; have HO_8 := n0_; have HO_9 := n1_; have HO_10 := n2_; have HB := n3_; clear n0_ n1_ n2_ n3_; (try clear hb); (try clear hb2); (try clear hk); (try clear hi); (try clear A62)))
                              go_ret
                              exact ⟨by first | rfl | (simp [errW_none, errW_some] <;> rfl) | (simp [*, errW_none, errW_some] <;> rfl), by repeat (first | (with_reducible first | exact HB.out | apply below_alloc | apply pw_below_drewN | apply below_drew1) | exact HB.out)⟩
                          · rw [if_neg c64] at H
                            have c64b0 : (t124 == 0) = false := beq_eq_false_iff_ne.mpr c64
                            have c64b1 : (t124 != 0) = true := bne_iff_ne.mpr c64
                            obtain rfl := Option.some.inj H
                            go_wp2_with (first | ((with_reducible refine gate_callee (f := 27) rfl ?_); refine goesL_ (some 100) rfl rfl Tryd.func27 (by kernel_rfl) rfl #[.slice Ao15 t106.length co15, .int .i64 x19_3] rfl (by (try simp only [List.map_toArray, List.map_cons, List.map_nil]); first | done | rfl | (simp only [List.length_drop, List.length_take]; rfl)) ?_; (with_reducible refine (place_Least.calls kj53 _ _ t106 x19_3 t121 t122 _ ?side1 ?side2 ?side3 A60.out).mono ?_); (case side1 => first | (with_reducible exact HG.out) | exact Glob.below HG.out (by repeat (first | (with_reducible first | exact HB.out | apply below_alloc | apply pw_below_drewN | apply below_drew1) | exact HB.out)) | exact Glob.drawn HG.out (by repeat (first | exact Drawn0.refl _ | apply Drawn0.step))); (case side2 => repeat (first | exact (Kd.R_reads' HO_9.out).2.2 | (with_reducible refine Kd.C_alloc ?_ _) | (with_reducible refine Kd.C_drewN ?_ _) | (with_reducible refine Kd.C_drew ?_))); (case side3 => exact (Kd.R_reads' HO_9.out).2.1); rintro e w79 ⟨rfl, hb⟩; refine ⟨_, rfl, ?_⟩; have n0_ := Aside0.mk (Kd.R_below (by (with_reducible repeat (first | apply Kd.R_alloc | apply Kd.R_drewN | apply Kd.R_drew)); exact HO_8.out) hb); have n1_ := Aside0.mk (Kd.R_below (by (with_reducible repeat (first | apply Kd.R_alloc | apply Kd.R_drewN | apply Kd.R_drew)); exact HO_9.out) hb); have n2_ := Aside0.mk (Kd.R_below (by (with_reducible repeat (first | apply Kd.R_alloc | apply Kd.R_drewN | apply Kd.R_drew)); exact HO_10.out) hb); have n3_ := Aside0.mk (below_step (by repeat (first | (with_reducible first | exact HB.out | apply below_alloc | apply pw_below_drewN | apply below_drew1) | exact HB.out)) hb); clear HO_8; clear HO_9; clear HO_10; clear HB; have HO_8 := n0_; have HO_9 := n1_; have HO_10 := n2_; have HB := n3_; clear n0_ n1_ n2_ n3_; (try clear hb); (try clear hb2); (try clear hk); (try clear hi); (try clear A60)) | ((with_reducible refine gate_callee (f := 27) rfl ?_); refine goesL_ (some 106) rfl rfl Tryd.func27 (by kernel_rfl) rfl #[.slice Ao12 t102.length co12, .int .i64 t121] rfl (by (try simp only [List.map_toArray, List.map_cons, List.map_nil]); first | done | rfl | (simp only [List.length_drop, List.length_take]; rfl)) ?_; (with_reducible refine (place_Least.calls kj53 _ _ t102 t121 t123 t124 _ ?side1 ?side2 ?side3 A61.out).mono ?_); (case side1 => first | (with_reducible exact HG.out) | exact Glob.below HG.out (by repeat (first | (with_reducible first | exact HB.out | apply below_alloc | apply pw_below_drewN | apply below_drew1) | exact HB.out)) | exact Glob.drawn HG.out (by repeat (first | exact Drawn0.refl _ | apply Drawn0.step))); (case side2 => repeat (first | exact (Kd.R_reads' HO_8.out).2.2 | (with_reducible refine Kd.C_alloc ?_ _) | (with_reducible refine Kd.C_drewN ?_ _) | (with_reducible refine Kd.C_drew ?_))); (case side3 => exact (Kd.R_reads' HO_8.out).2.1); rintro e w80 ⟨rfl, hb⟩; refine ⟨_, rfl, ?_⟩; have n0_ := Aside0.mk (Kd.R_below (by (with_reducible repeat (first | apply Kd.R_alloc | apply Kd.R_drewN | apply Kd.R_drew)); exact HO_8.out) hb); have n1_ := Aside0.mk (Kd.R_below (by (with_reducible repeat (first | apply Kd.R_alloc | apply Kd.R_drewN | apply Kd.R_drew)); exact HO_9.out) hb); have n2_ := Aside0.mk (Kd.R_below (by (with_reducible repeat (first | apply Kd.R_alloc | apply Kd.R_drewN | apply Kd.R_drew)); exact HO_10.out) hb); have n3_ := Aside0.mk (below_step (by repeat (first | (with_reducible first | exact HB.out | apply below_alloc | apply pw_below_drewN | apply below_drew1) | exact HB.out)) hb); clear HO_8; clear HO_9; clear HO_10; clear HB; have HO_8 := n0_; have HO_9 := n1_; have HO_10 := n2_; have HB := n3_; clear n0_ n1_ n2_ n3_; (try clear hb); (try clear hb2); (try clear hk); (try clear hi); obtain ⟨Ao81, co81, eo81⟩ := Kd.R_slice HO_10.out; subst eo81; (try clear A61)) | ((with_reducible refine gate_callee (f := 27) rfl ?_); refine goesL_ (some 112) rfl rfl Tryd.func27 (by kernel_rfl) rfl #[.slice Ao81 t109.length co81, .int .i64 x19_3] rfl (by (try simp only [List.map_toArray, List.map_cons, List.map_nil]); first | done | rfl | (simp only [List.length_drop, List.length_take]; rfl)) ?_; (with_reducible refine (place_Least.calls kj53 _ _ t109 x19_3 t125 t126 _ ?side1 ?side2 ?side3 A62.out).mono ?_); (case side1 => first | (with_reducible exact HG.out) | exact Glob.below HG.out (by repeat (first | (with_reducible first | exact HB.out | apply below_alloc | apply pw_below_drewN | apply below_drew1) | exact HB.out)) | exact Glob.drawn HG.out (by repeat (first | exact Drawn0.refl _ | apply Drawn0.step))); (case side2 => repeat (first | exact (Kd.R_reads' HO_10.out).2.2 | (with_reducible refine Kd.C_alloc ?_ _) | (with_reducible refine Kd.C_drewN ?_ _) | (with_reducible refine Kd.C_drew ?_))); (case side3 => exact (Kd.R_reads' HO_10.out).2.1); rintro e w82 ⟨rfl, hb⟩; refine ⟨_, rfl, ?_⟩; have n0_ := Aside0.mk (Kd.R_below (by (with_reducible repeat (first | apply Kd.R_alloc | apply Kd.R_drewN | apply Kd.R_drew)); exact HO_8.out) hb); have n1_ := Aside0.mk (Kd.R_below (by (with_reducible repeat (first | apply Kd.R_alloc | apply Kd.R_drewN | apply Kd.R_drew)); exact HO_9.out) hb); have n2_ := Aside0.mk (Kd.R_below (by (with_reducible repeat (first | apply Kd.R_alloc | apply Kd.R_drewN | apply Kd.R_drew)); exact HO_10.out) hb); have n3_ := Aside0.mk (below_step (by repeat (first | (with_reducible first | exact HB.out | apply below_alloc | apply pw_below_drewN | apply below_drew1) | exact HB.out)) hb); clear HO_8; clear HO_9; clear HO_10; clear HB; have HO_8 := n0_; have HO_9 := n1_; have HO_10 := n2_; have HB := n3_; clear n0_ n1_ n2_ n3_; (try clear hb); (try clear hb2); (try clear hk); (try clear hi); (try clear A62)))
                            go_ret
                            exact ⟨by first | rfl | (simp [errW_none, errW_some] <;> rfl) | (simp [*, errW_none, errW_some] <;> rfl), by repeat (first | (with_reducible first | exact HB.out | apply below_alloc | apply pw_below_drewN | apply below_drew1) | exact HB.out)⟩
                        · rw [if_neg c63] at H
                          have c63b0 : (t122 == 0) = false := beq_eq_false_iff_ne.mpr c63
                          have c63b1 : (t122 != 0) = true := bne_iff_ne.mpr c63
                          obtain rfl := Option.some.inj H
                          go_wp2_with (first | ((with_reducible refine gate_callee (f := 27) rfl ?_); refine goesL_ (some 100) rfl rfl Tryd.func27 (by kernel_rfl) rfl #[.slice Ao15 t106.length co15, .int .i64 x19_3] rfl (by (try simp only [List.map_toArray, List.map_cons, List.map_nil]); first | done | rfl | (simp only [List.length_drop, List.length_take]; rfl)) ?_; (with_reducible refine (place_Least.calls kj53 _ _ t106 x19_3 t121 t122 _ ?side1 ?side2 ?side3 A60.out).mono ?_); (case side1 => first | (with_reducible exact HG.out) | exact Glob.below HG.out (by repeat (first | (with_reducible first | exact HB.out | apply below_alloc | apply pw_below_drewN | apply below_drew1) | exact HB.out)) | exact Glob.drawn HG.out (by repeat (first | exact Drawn0.refl _ | apply Drawn0.step))); (case side2 => repeat (first | exact (Kd.R_reads' HO_9.out).2.2 | (with_reducible refine Kd.C_alloc ?_ _) | (with_reducible refine Kd.C_drewN ?_ _) | (with_reducible refine Kd.C_drew ?_))); (case side3 => exact (Kd.R_reads' HO_9.out).2.1); rintro e w83 ⟨rfl, hb⟩; refine ⟨_, rfl, ?_⟩; have n0_ := Aside0.mk (Kd.R_below (by (with_reducible repeat (first | apply Kd.R_alloc | apply Kd.R_drewN | apply Kd.R_drew)); exact HO_8.out) hb); have n1_ := Aside0.mk (Kd.R_below (by (with_reducible repeat (first | apply Kd.R_alloc | apply Kd.R_drewN | apply Kd.R_drew)); exact HO_9.out) hb); have n2_ := Aside0.mk (Kd.R_below (by (with_reducible repeat (first | apply Kd.R_alloc | apply Kd.R_drewN | apply Kd.R_drew)); exact HO_10.out) hb); have n3_ := Aside0.mk (below_step (by repeat (first | (with_reducible first | exact HB.out | apply below_alloc | apply pw_below_drewN | apply below_drew1) | exact HB.out)) hb); clear HO_8; clear HO_9; clear HO_10; clear HB; have HO_8 := n0_; have HO_9 := n1_; have HO_10 := n2_; have HB := n3_; clear n0_ n1_ n2_ n3_; (try clear hb); (try clear hb2); (try clear hk); (try clear hi); (try clear A60)) | ((with_reducible refine gate_callee (f := 27) rfl ?_); refine goesL_ (some 106) rfl rfl Tryd.func27 (by kernel_rfl) rfl #[.slice Ao12 t102.length co12, .int .i64 t121] rfl (by (try simp only [List.map_toArray, List.map_cons, List.map_nil]); first | done | rfl | (simp only [List.length_drop, List.length_take]; rfl)) ?_; (with_reducible refine (place_Least.calls kj53 _ _ t102 t121 t123 t124 _ ?side1 ?side2 ?side3 A61.out).mono ?_); (case side1 => first | (with_reducible exact HG.out) | exact Glob.below HG.out (by repeat (first | (with_reducible first | exact HB.out | apply below_alloc | apply pw_below_drewN | apply below_drew1) | exact HB.out)) | exact Glob.drawn HG.out (by repeat (first | exact Drawn0.refl _ | apply Drawn0.step))); (case side2 => repeat (first | exact (Kd.R_reads' HO_8.out).2.2 | (with_reducible refine Kd.C_alloc ?_ _) | (with_reducible refine Kd.C_drewN ?_ _) | (with_reducible refine Kd.C_drew ?_))); (case side3 => exact (Kd.R_reads' HO_8.out).2.1); rintro e w84 ⟨rfl, hb⟩; refine ⟨_, rfl, ?_⟩; have n0_ := Aside0.mk (Kd.R_below (by (with_reducible repeat (first | apply Kd.R_alloc | apply Kd.R_drewN | apply Kd.R_drew)); exact HO_8.out) hb); have n1_ := Aside0.mk (Kd.R_below (by (with_reducible repeat (first | apply Kd.R_alloc | apply Kd.R_drewN | apply Kd.R_drew)); exact HO_9.out) hb); have n2_ := Aside0.mk (Kd.R_below (by (with_reducible repeat (first | apply Kd.R_alloc | apply Kd.R_drewN | apply Kd.R_drew)); exact HO_10.out) hb); have n3_ := Aside0.mk (below_step (by repeat (first | (with_reducible first | exact HB.out | apply below_alloc | apply pw_below_drewN | apply below_drew1) | exact HB.out)) hb); clear HO_8; clear HO_9; clear HO_10; clear HB; have HO_8 := n0_; have HO_9 := n1_; have HO_10 := n2_; have HB := n3_; clear n0_ n1_ n2_ n3_; (try clear hb); (try clear hb2); (try clear hk); (try clear hi); obtain ⟨Ao85, co85, eo85⟩ := Kd.R_slice HO_10.out; subst eo85; (try clear A61)) | ((with_reducible refine gate_callee (f := 27) rfl ?_); refine goesL_ (some 112) rfl rfl Tryd.func27 (by kernel_rfl) rfl #[.slice Ao85 t109.length co85, .int .i64 x19_3] rfl (by (try simp only [List.map_toArray, List.map_cons, List.map_nil]); first | done | rfl | (simp only [List.length_drop, List.length_take]; rfl)) ?_; (with_reducible refine (place_Least.calls kj53 _ _ t109 x19_3 t125 t126 _ ?side1 ?side2 ?side3 A62.out).mono ?_); (case side1 => first | (with_reducible exact HG.out) | exact Glob.below HG.out (by repeat (first | (with_reducible first | exact HB.out | apply below_alloc | apply pw_below_drewN | apply below_drew1) | exact HB.out)) | exact Glob.drawn HG.out (by repeat (first | exact Drawn0.refl _ | apply Drawn0.step))); (case side2 => repeat (first | exact (Kd.R_reads' HO_10.out).2.2 | (with_reducible refine Kd.C_alloc ?_ _) | (with_reducible refine Kd.C_drewN ?_ _) | (with_reducible refine Kd.C_drew ?_))); (case side3 => exact (Kd.R_reads' HO_10.out).2.1); rintro e w86 ⟨rfl, hb⟩; refine ⟨_, rfl, ?_⟩; have n0_ := Aside0.mk (Kd.R_below (by (with_reducible repeat (first | apply Kd.R_alloc | apply Kd.R_drewN | apply Kd.R_drew)); exact HO_8.out) hb); have n1_ := Aside0.mk (Kd.R_below (by (with_reducible repeat (first | apply Kd.R_alloc | apply Kd.R_drewN | apply Kd.R_drew)); exact HO_9.out) hb); have n2_ := Aside0.mk (Kd.R_below (by (with_reducible repeat (first | apply Kd.R_alloc | apply Kd.R_drewN | apply Kd.R_drew)); exact HO_10.out) hb); have n3_ := Aside0.mk (below_step (by repeat (first | (with_reducible first | exact HB.out | apply below_alloc | apply pw_below_drewN | apply below_drew1) | exact HB.out)) hb); clear HO_8; clear HO_9; clear HO_10; clear HB; have HO_8 := n0_; have HO_9 := n1_; have HO_10 := n2_; have HB := n3_; clear n0_ n1_ n2_ n3_; (try clear hb); (try clear hb2); (try clear hk); (try clear hi); (try clear A62)))
                          go_ret
                          exact ⟨by first | rfl | (simp [errW_none, errW_some] <;> rfl) | (simp [*, errW_none, errW_some] <;> rfl), by repeat (first | (with_reducible first | exact HB.out | apply below_alloc | apply pw_below_drewN | apply below_drew1) | exact HB.out)⟩
                      · replace c59 := Bool.eq_false_iff.mpr c59
                        subst c59
                        have H1 : (some true) = some r := by rw [if_neg (show ¬ (false = true) by decide)] at H; exact H
                        clear H
                        have H := H1
                        clear H1
                        obtain rfl := Option.some.inj H
                        go_wp2
                        go_ret
                        exact ⟨by first | rfl | (simp [errW_none, errW_some] <;> rfl) | (simp [*, errW_none, errW_some] <;> rfl), by repeat (first | (with_reducible first | exact HB.out | apply below_alloc | apply pw_below_drewN | apply below_drew1) | exact HB.out)⟩
end Go.Proofs.YtphbemkdhneklaaDoor.F
end
section
namespace Go.Proofs.YtphbemkdhneklaaDoor.F
open Go.RowKit Go.Proofs.YtphbemkdhneklaaDoorW.PrintWords Go.Proofs.YtphbemkdhneklaaDoorW.PrintLast Go.Proofs.YtphbemkdhneklaaDoorW.PrintMore
attribute [local go_sem] max2_int min2_int max_two min_two max_three min_three max_four min_four cell_setCell_isSome
set_option linter.unusedVariables false
set_option linter.unusedSimpArgs false
def apply_To.l0 : Nat → List Int → List Int → List (S51) → Int → Int → Option (ByteArray × Int)
  | 0, _, _, _, _, _ => none
  | k + 1, x8, x9, x29, x30, x31 => if x31 < x30 then (if 0 ≤ x31 then (if x31 < (x29.length : Int) then (if ((rd_T51 x29 x31).f0) = 2 then ((str_runes.f ((rd_T51 x29 x31).f2)).bind fun t110 => (if x9.length + t110.length < 35184372088832 then (if 0 ≤ ((rd_T51 x29 x31).f1) then (if ((rd_T51 x29 x31).f1) ≤ (x8.length : Int) then (apply_To.l0 k (x8.drop (((rd_T51 x29 x31).f1) : Int).toNat) (x9 ++ t110) x29 x30 (wrap64 (x31 + 1))) else (none)) else (none)) else (none))) else (if ((rd_T51 x29 x31).f0) = 1 then (if 0 ≤ ((rd_T51 x29 x31).f1) then (if ((rd_T51 x29 x31).f1) ≤ (x8.length : Int) then ((some (x8.take (((rd_T51 x29 x31).f1) : Int).toNat : List Int)).bind fun y119 => (if x9.length + y119.length < 35184372088832 then (apply_To.l0 k (x8.drop (((rd_T51 x29 x31).f1) : Int).toNat) (x9 ++ y119) x29 x30 (wrap64 (x31 + 1))) else (none))) else (none)) else (none)) else (if 0 ≤ ((rd_T51 x29 x31).f1) then (if ((rd_T51 x29 x31).f1) ≤ (x8.length : Int) then (apply_To.l0 k (x8.drop (((rd_T51 x29 x31).f1) : Int).toNat) x9 x29 x30 (wrap64 (x31 + 1))) else (none)) else (none)))) else (none)) else (none)) else ((runes_str.f x9).bind fun t107 => (some (t107, 0)))
theorem apply_To.mono_l : ∀ k, (∀ y0 y1 y2 y3 y4, LeO (apply_To.l0 k y0 y1 y2 y3 y4) (apply_To.l0 (k + 1) y0 y1 y2 y3 y4))
  | 0 => fun _ _ _ _ _ r h => by simp [apply_To.l0] at h
  | k + 1 => by
    have ih0 := apply_To.mono_l k
    · intro y0 y1 y2 y3 y4
      unfold apply_To.l0
      repeat' first
      | (with_reducible exact ih0 _ _ _ _ _)
      | (with_reducible exact op_In.mono _ _)
      | (with_reducible exact op_May.mono _ _)
      | (with_reducible exact LeO.refl _)
      | (with_reducible exact LeO.none _)
      | (with_reducible refine LeO.ite ?_ ?_)
      | (with_reducible refine LeO.bind ?_ (fun _ => ?_))
      | exact ih0 _ _ _ _ _
      | exact op_In.mono _ _
      | exact op_May.mono _ _
      | exact LeO.none _
      | refine LeO.ite ?_ ?_
      | refine LeO.bind ?_ (fun _ => ?_)
end Go.Proofs.YtphbemkdhneklaaDoor.F
end
section
namespace Go.Proofs.YtphbemkdhneklaaDoor.F
open Go.RowKit Go.Proofs.YtphbemkdhneklaaDoorW.PrintWords Go.Proofs.YtphbemkdhneklaaDoorW.PrintLast Go.Proofs.YtphbemkdhneklaaDoorW.PrintMore
attribute [local go_sem] max2_int min2_int max_two min_two max_three min_three max_four min_four cell_setCell_isSome
set_option linter.unusedVariables false
set_option linter.unusedSimpArgs false
def normal_Is.l0 : Nat → List (S51) → List (S51) → Int → Int → Option (Bool)
  | 0, _, _, _, _ => none
  | k + 1, x0, x5, x6, x7 => if x7 < x6 then (if 0 ≤ x7 then (if x7 < (x5.length : Int) then ((normal_empty.f ((rd_T51 x5 x7).f0) ((rd_T51 x5 x7).f1) ((rd_T51 x5 x7).f2)).bind fun t103 => (if t103 = true then (some false) else (if x7 > 0 then (if 0 ≤ (wrap64 (x7 - 1)) then (if (wrap64 (x7 - 1)) < (x0.length : Int) then (if ((rd_T51 x5 x7).f0) = ((rd_T51 x0 (wrap64 (x7 - 1))).f0) then (some false) else (normal_Is.l0 k x0 x5 x6 (wrap64 (x7 + 1)))) else (none)) else (none)) else (normal_Is.l0 k x0 x5 x6 (wrap64 (x7 + 1)))))) else (none)) else (none)) else (some true)
theorem normal_Is.mono_l : ∀ k, (∀ y0 y1 y2 y3, LeO (normal_Is.l0 k y0 y1 y2 y3) (normal_Is.l0 (k + 1) y0 y1 y2 y3))
  | 0 => fun _ _ _ _ r h => by simp [normal_Is.l0] at h
  | k + 1 => by
    have ih0 := normal_Is.mono_l k
    · intro y0 y1 y2 y3
      unfold normal_Is.l0
      repeat' first
      | (with_reducible exact ih0 _ _ _ _)
      | (with_reducible exact LeO.refl _)
      | (with_reducible exact LeO.none _)
      | (with_reducible refine LeO.ite ?_ ?_)
      | (with_reducible refine LeO.bind ?_ (fun _ => ?_))
      | exact ih0 _ _ _ _
      | exact LeO.none _
      | refine LeO.ite ?_ ?_
      | refine LeO.bind ?_ (fun _ => ?_)
end Go.Proofs.YtphbemkdhneklaaDoor.F
end
section
namespace Go.Proofs.YtphbemkdhneklaaDoor.F
open Go.RowKit Go.Proofs.YtphbemkdhneklaaDoorW.PrintWords Go.Proofs.YtphbemkdhneklaaDoorW.PrintLast Go.Proofs.YtphbemkdhneklaaDoorW.PrintMore
set_option linter.unusedVariables false
set_option linter.unusedSimpArgs false
structure OfSt (w wr : World) (gR gP gG : Nat) (put : List ByteArray) (gone : List Bool) : Prop where
  b : Below w.heap.size w wr
  r : wr.heap[gR]? = some (.cells #[.slice none 0 0, .slice none 0 0] 38 (0, 0))
  p : wr.heap[gP]? = some (.cells (put.map Value.string).toArray 72 (0, 0))
  g : wr.heap[gG]? = some (.cells (gone.map Value.bool).toArray 73 (0, 0))
  lp : put.length = 513
  lg : gone.length = 512
  hR : w.heap.size ≤ gR
  hP : w.heap.size ≤ gP
  hG : w.heap.size ≤ gG
theorem OfSt.below {w wr w3 : World} {gR gP gG : Nat} {put : List ByteArray} {gone : List Bool} (h : OfSt w wr gR gP gG put gone) (hb : Below wr.heap.size wr w3) : OfSt w w3 gR gP gG put gone :=
  ⟨below_step h.b hb, blk_below h.r hb, blk_below h.p hb, blk_below h.g hb, h.lp, h.lg, h.hR, h.hP, h.hG⟩
end Go.Proofs.YtphbemkdhneklaaDoor.F
end
