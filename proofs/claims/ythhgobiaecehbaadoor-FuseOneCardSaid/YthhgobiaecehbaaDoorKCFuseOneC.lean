import Derived.Test.YthhgobiaecehbaaDoorKCFuseOneB
import Derived.Below
import Derived.Deep.Draws
import Derived.Deep.AppendLies
import Derived.Maps.AppendAt
import Derived.OwnWalk
import Derived.Laws.BytesArg
import Derived.Laws.MakeOwn
import Derived.Laws.OwnMore
import Derived.Deep.OwnRows
import Derived.Tactics
import Derived.Lib.ConvBytes
import Derived.Laws.Slices
import Derived.WalkKit
import Derived.KernelRfl
import Derived.RowKit3
import Derived.Deep.LoopGhost
import Derived.Deep.QuietTactic
import Derived.BigQuiet
import Derived.WideLaws
import Derived.Deep.DeepCutAuto
import Derived.Deep.CutBlock
import Derived.Deep.RegionHeld3
import Derived.Laws.Rows
import Derived.Lib.AppendStr
import Derived.ArgAppend
import Derived.Laws.IdiomCopy
import Derived.RowKit
import Derived.OrdersHeld
import Derived.Laws.BitsLemmas
import Derived.Laws.StructEq
import Derived.Test.YthhgobiaecehbaaDoorProg
import Derived.Handy
import Derived.Shelf.Unicode.DecodeSlow
import Derived.Ground.NamesProg
import Derived.Shelf.Unicode.ValidAny
import Derived.Laws.RangeString
import Derived.Laws.RangeAny
import Derived.Lib.RuneCount
import Derived.Laws.IdiomStrings
import Derived.Laws.Cover4
import Derived.Great.BuildSlice
section
namespace Go.Proofs.YthhgobiaecehbaaDoor.F
open Go.RowKit Go.Proofs.YthhgobiaecehbaaDoorW.PrintWords Go.Proofs.YthhgobiaecehbaaDoorW.PrintLast Go.Proofs.YthhgobiaecehbaaDoorW.PrintMore
attribute [local go_sem] max2_int min2_int max_two min_two max_three min_three max_four min_four cell_setCell_isSome
set_option linter.unusedVariables false
set_option linter.unusedSimpArgs false
def normal_Of.l0 : Nat → List (S41) → Int → Int → Int → Option ((List (S41)))
  | 0, _, _, _, _ => none
  | k + 1, x3, x4, x16, x17 => if x17 < x16 then (if 0 ≤ x17 then (if x17 < (x3.length : Int) then (if x17 = 0 then (normal_Of.l0 k x3 x4 x16 (wrap64 (x17 + 1))) else (if 0 ≤ x4 then (if x4 < (x3.length : Int) then (if ((rd_T41 x3 x17).f0) = ((rd_T41 x3 x4).f0) then ((some (x3.set (x4 : Int).toNat (⟨(rd_T41 x3 x4).f0, wrap64 (((rd_T41 x3 x4).f1) + ((rd_T41 x3 x17).f1)), (rd_T41 x3 x4).f2⟩ : S41) : List (S41))).bind fun y117 => (if ((rd_T41 y117 x4).f2).size + ((rd_T41 x3 x17).f2).size ≤ 9223372036854775807 then (normal_Of.l0 k (y117.set (x4 : Int).toNat (⟨(rd_T41 y117 x4).f0, (rd_T41 y117 x4).f1, ((rd_T41 y117 x4).f2) ++ ((rd_T41 x3 x17).f2)⟩ : S41)) x4 x16 (wrap64 (x17 + 1))) else (none))) else (if 0 ≤ (wrap64 (x4 + 1)) then (if (wrap64 (x4 + 1)) < (x3.length : Int) then (normal_Of.l0 k (x3.set ((wrap64 (x4 + 1)) : Int).toNat (⟨(rd_T41 x3 x17).f0, (rd_T41 x3 x17).f1, (rd_T41 x3 x17).f2⟩ : S41)) (wrap64 (x4 + 1)) x16 (wrap64 (x17 + 1))) else (none)) else (none))) else (none)) else (none))) else (none)) else (none)) else (if 0 ≤ (mn (wrap64 (x4 + 1)) (x3.length : Int)) then (if (mn (wrap64 (x4 + 1)) (x3.length : Int)) ≤ (x3.length : Int) then (some (x3.take ((mn (wrap64 (x4 + 1)) (x3.length : Int)) : Int).toNat)) else (none)) else (none))
def normal_Of.f (k : Nat) (l0 : List (S41)) : Option ((List (S41))) := (some (([] : List (S41)) : List (S41))).bind fun y101 => (if y101.length + l0.length < 4398046511104 then ((api_Span_53.f k (y101 ++ l0)).bind fun t107 => (normal_Of.l0 k t107 0 (t107.length : Int) 0)) else (none))
theorem normal_Of.mono_l : ∀ k, (∀ y0 y1 y2 y3, LeO (normal_Of.l0 k y0 y1 y2 y3) (normal_Of.l0 (k + 1) y0 y1 y2 y3))
  | 0 => fun _ _ _ _ r h => by simp [normal_Of.l0] at h
  | k + 1 => by
    have ih0 := normal_Of.mono_l k
    · intro y0 y1 y2 y3
      unfold normal_Of.l0
      repeat' first
      | (with_reducible exact ih0 _ _ _ _)
      | (with_reducible exact api_Span_53.mono _ _)
      | (with_reducible exact LeO.refl _)
      | (with_reducible exact LeO.none _)
      | (with_reducible refine LeO.ite ?_ ?_)
      | (with_reducible refine LeO.bind ?_ (fun _ => ?_))
      | exact ih0 _ _ _ _
      | exact api_Span_53.mono _ _
      | exact LeO.none _
      | refine LeO.ite ?_ ?_
      | refine LeO.bind ?_ (fun _ => ?_)
theorem normal_Of.mono : ∀ a0 k, LeO (normal_Of.f k a0) (normal_Of.f (k + 1) a0) := by
  intro a0 k
  have ih0 := normal_Of.mono_l k
  unfold normal_Of.f
  repeat' first
      | (with_reducible exact ih0 _ _ _ _)
      | (with_reducible exact api_Span_53.mono _ _)
      | (with_reducible exact LeO.refl _)
      | (with_reducible exact LeO.none _)
      | (with_reducible refine LeO.ite ?_ ?_)
      | (with_reducible refine LeO.bind ?_ (fun _ => ?_))
      | exact ih0 _ _ _ _
      | exact api_Span_53.mono _ _
      | exact LeO.none _
      | refine LeO.ite ?_ ?_
      | refine LeO.bind ?_ (fun _ => ?_)
def normal_Of.T11 : Bool × List (List Nat × List Nat) := (true, [([], []), ([0], [0]), ([], []), ([], []), ([2, 3], [2, 3]), ([4], [4]), ([5], [5]), ([1, 6], [1, 6]), ([7], [7])])
def normal_Of.B11 : List Nat := [0, 1, 0, 0, 12, 28, 60, 127, 255]
theorem normal_Of.tab11 : rtab .any (opsOf Tryd.f26 11) = normal_Of.T11 := by kernel_rfl
theorem normal_Of.bits11 : waitsOk normal_Of.T11.2 normal_Of.B11 = true := by kernel_rfl
def normal_Of.T12 : Bool × List (List Nat × List Nat) := (true, [([], []), ([], []), ([0, 1], [0, 1]), ([2], [2]), ([3], [3]), ([], []), ([5], [5]), ([4, 6], [4, 6]), ([0, 1, 0, 1, 2, 3, 4, 5, 6, 7], [0, 1]), ([8, 0, 1, 2, 3, 4, 5, 6, 7], [8]), ([9, 7, 0, 1, 2, 3, 4, 5, 6, 7], [7, 9])])
def normal_Of.B12 : List Nat := [0, 0, 3, 7, 15, 0, 32, 127, 255, 511, 1023]
theorem normal_Of.tab12 : rtab .any (opsOf Tryd.f26 12) = normal_Of.T12 := by kernel_rfl
theorem normal_Of.bits12 : waitsOk normal_Of.T12.2 normal_Of.B12 = true := by kernel_rfl
def normal_Of.T13 : Bool × List (List Nat × List Nat) := (true, [([], []), ([], []), ([0, 1], [0, 1]), ([2], [2]), ([3], [3]), ([], []), ([5], [5]), ([4, 6], [4, 6]), ([0, 1, 0, 1, 2, 3, 4, 5, 6, 7], [0, 1]), ([8, 0, 1, 2, 3, 4, 5, 6, 7], [8]), ([9, 7, 0, 1, 2, 3, 4, 5, 6, 7], [7, 9])])
def normal_Of.B13 : List Nat := [0, 0, 3, 7, 15, 0, 32, 127, 255, 511, 1023]
theorem normal_Of.tab13 : rtab .any (opsOf Tryd.f26 13) = normal_Of.T13 := by kernel_rfl
theorem normal_Of.bits13 : waitsOk normal_Of.T13.2 normal_Of.B13 = true := by kernel_rfl
set_option maxHeartbeats 8000000 in
set_option maxRecDepth 100000 in
theorem normal_Of.calls (k : Nat) (A0 : Option Addr) (c0 : Nat) (l0 : List (S41)) (r : List (S41)) (w : World) (hr0 : Kd.C k41 w A0 l0.length l0) (hc0 : l0.length ≤ c0) (h : normal_Of.f k l0 = some r) :
    Calls Tryd.prog 26 #[.slice A0 l0.length c0] w fun e w' => ∃ v0_ : Value, e = .returned (v0_) ∧ Kd.R k41 41 w' w.heap.size (fun _ => True) v0_ r ∧ Below w.heap.size w w' := by
  have hu41 := Tryd.underlying41
  have HR0 := Aside0.mk hr0
  have HC0 := Aside0.mk hc0
  clear hr0 hc0
  have HB := Aside0.mk (Below.refl w.heap.size w)
  have H : ((some (([] : List (S41)) : List (S41))).bind fun y101 => (if y101.length + l0.length < 4398046511104 then ((api_Span_53.f k (y101 ++ l0)).bind fun t107 => (normal_Of.l0 k t107 0 (t107.length : Int) 0)) else (none))) = some r := h
  clear h
  obtain ⟨y101, hy101⟩ : ∃ y_ : List (S41), y_ = (([] : List (S41))) := ⟨_, rfl⟩
  replace H : (if y101.length + l0.length < 4398046511104 then ((api_Span_53.f k (y101 ++ l0)).bind fun t107 => (normal_Of.l0 k t107 0 (t107.length : Int) 0)) else (none)) = some r := by first | (rw [hy101]; with_reducible exact H) | (have H2_ := (Option.bind_some _ _).symm.trans H; rw [hy101]; with_reducible exact H2_) | (have H2_ := (Option.bind_some _ _).symm.trans H; with_reducible exact H2_) | with_reducible exact H | (rw [hy101]; exact H) | exact H
  have Ny101 := Aside0.mk hy101
  clear hy101
  by_cases c2 : y101.length + l0.length < 4398046511104
  · rw [if_pos c2] at H
    have LMc2 := Aside0.mk c2
    clear c2
    obtain ⟨y104, hy104⟩ : ∃ y_ : List (S41), y_ = (y101 ++ l0) := ⟨_, rfl⟩
    replace H : ((api_Span_53.f k y104).bind fun t107 => (normal_Of.l0 k t107 0 (t107.length : Int) 0)) = some r := by first | (rw [hy104]; with_reducible exact H) | (have H2_ := (Option.bind_some _ _).symm.trans H; rw [hy104]; with_reducible exact H2_) | (have H2_ := (Option.bind_some _ _).symm.trans H; with_reducible exact H2_) | with_reducible exact H | (rw [hy104]; exact H) | exact H
    have Ny104 := Aside0.mk hy104
    clear hy104
    replace H := Option.bind_eq_some_iff.mp H
    obtain ⟨t107, A30, H⟩ := H
    replace H : (normal_Of.l0 k t107 0 (t107.length : Int) 0) = some r := H
    have A3 := Aside0.mk A30
    clear A30
    have H' := Aside0.mk H
    clear H
    go_enter Tryd.func26, Tryd.ntmps26
    go_wp2_with (first | ((with_reducible refine gate_make (t := 24) (x := .tmp 8) (y := .tmp 8) rfl ?_); refine Kd.R_make k41 (w0 := w) w.heap.size 41 rfl rfl 24 (.tmp 8) (.tmp 8) rfl (l0.length : Int) rfl rfl Tryd.underlying24 (.agg #[(.int .i64 0), (.int .i64 0), (.string ⟨#[]⟩)]) 32 info41 rfl (by decide) (by decide) (⟨0, 0, ⟨#[]⟩⟩ : S41) (ok := fun _ => True) (okp := fun _ => True) ?hz (fun _ h => h) trivial (by omega) ?aL ?aB ?aS ?_; (case hz => exact k41_mkM _ _ _ (⟨0, 0, ⟨#[]⟩⟩ : S41)); (case aL => have := LMc2.out; omega); (case aB => exact (by repeat (first | (with_reducible first | exact HB.out | apply below_alloc | apply pw_below_drewN | apply below_drew1) | exact HB.out))); (case aS => exact (below_size (by repeat (first | (with_reducible first | exact HB.out | apply below_alloc | apply pw_below_drewN | apply below_drew1) | exact HB.out)))); intro v102m w4m ho5 hb hg_ hnew_; clear hg_ hnew_; have n0_ := Aside0.mk ho5; have n1_ := Aside0.mk hb; clear HB; have HO103 := n0_; have HB := n1_; clear n0_ n1_; clear hb ho5) | ((with_reducible refine gate_builtin (b := .copy) (xs := #[.tmp 10, .tmp 11]) rfl ?_); refine R_copy_rows k41 (w0 := w) w.heap.size rfl (.tmp 10) (.tmp 11) 24 24 41 (by decide) rfl Tryd.underlying24 (info_size info41) v102m (List.replicate ((l0.length : Int)).toNat (⟨0, 0, ⟨#[]⟩⟩ : S41)) l0 A0 l0.length c0 (fun _ => True) (fun _ => False) rfl rfl ?aO ?aR (by simp) (fun _ _ h => h) (fun _ h => h.elim) ?aB ?aS ?_; (case aR => repeat (first | exact (Kd.C_below HR0.out HB.out) | (with_reducible refine Kd.C_alloc ?_ _) | (with_reducible refine Kd.C_drewN ?_ _) | (with_reducible refine Kd.C_drew ?_))); (case aB => exact (by repeat (first | (with_reducible first | exact HB.out | apply below_alloc | apply pw_below_drewN | apply below_drew1) | exact HB.out))); (case aO => exact (by (with_reducible repeat (first | apply Kd.R_alloc | apply Kd.R_drewN | apply Kd.R_drew)); exact HO103.out)); (case aS => exact (below_size (by repeat (first | (with_reducible first | exact HB.out | apply below_alloc | apply pw_below_drewN | apply below_drew1) | exact HB.out)))); intro w6m ho hb hg; have hyy : l0 = y104 := (by rw [Ny104.out, Ny101.out]; rfl); rw [hyy] at ho; clear hyy; have n0_ := Aside0.mk hb; have n1_ := Aside0.mk ho; clear HB; clear HO103; have HB := n0_; have HO106 := n1_; clear n0_ n1_; clear ho hb hg; obtain ⟨Ao7, co7, eo7⟩ := Kd.R_slice HO106.out; subst eo7) | ((with_reducible refine gate_callee (f := 53) rfl ?_); refine goesL_ (some 14) rfl rfl Tryd.func53 (by kernel_rfl) rfl #[.slice Ao7 y104.length co7, .func (.func 54) #[] #[]] rfl (by (try simp only [List.map_toArray, List.map_cons, List.map_nil]); first | done | rfl | (simp only [List.length_drop, List.length_take]; rfl)) ?_; (with_reducible refine (api_Span_53.calls k (fun k_ => some k_ = (.slice Ao7 y104.length co7 : Value).ownBlock) (.slice Ao7 y104.length co7) y104 t107 w _ ?side1 ?side2 A3.out).mono ?_); (case side1 => repeat (first | (with_reducible first | exact HB.out | apply below_alloc | apply pw_below_drewN | apply below_drew1) | exact HB.out)); (case side2 => exact Kd.R_tight rfl HO106.out); rintro e w8 ⟨v108, rfl, ho0, hb, hkp⟩; refine ⟨_, rfl, ?_⟩; have n0_ := Aside0.mk (Kd.R_mono (ok' := fun k_ => True) ho0 (fun k_ hk_ => trivial)); have n1_ := Aside0.mk (hb); clear HB; clear HO106; have HO109 := n0_; have HB := n1_; clear n0_ n1_; (try clear hb); (try clear hkp); (try clear ho0); obtain ⟨Ao9, co9, eo9⟩ := Kd.R_slice HO109.out; subst eo9))
    go_loopg [4, 17] k (fun kq v4 v17 w' => ∃ (x3_1 : List (S41)) (x4_1 : Int) (x17_1 : Int), v4 = .int .i64 x4_1 ∧ v17 = .int .i64 x17_1 ∧ Aside0 (normal_Of.l0 kq x3_1 x4_1 (t107.length : Int) x17_1 = some r) ∧ Aside0 (kq ≤ k) ∧ Aside0 (Kd.R k41 41 w' w.heap.size (fun _ => True) (.slice Ao9 t107.length co9) x3_1) ∧ Aside0 (Below w.heap.size w w'))
    case atStart => exact ⟨(t107), (0), (0), (by first | rfl | (simp; done) | (simp [*]; done)), (by first | rfl | (simp; done) | (simp [*]; done)), H', ⟨Nat.le_refl _⟩, ⟨by (with_reducible repeat (first | apply Kd.R_alloc | apply Kd.R_drewN | apply Kd.R_drew)); exact HO109.out⟩, ⟨by repeat (first | (with_reducible first | exact HB.out | apply below_alloc | apply pw_below_drewN | apply below_drew1) | exact HB.out)⟩⟩
    case round =>
      clear H'
      try clear c2
      try clear p2
      try clear c5
      obtain ⟨x3_1, x4_1, x17_1, rfl, rfl, HA, HK1, HO_3, HB⟩ := hrel
      have hl3_1 := (Kd.R_reads' HO_3.out).1
      rw [hl3_1] at HO_3
      (try simp only [hl3_1])
      cases gk with
      | zero => exact absurd HA.out (by simp [normal_Of.l0])
      | succ k1 =>
        have H := HA.out
        clear HA
        simp only [normal_Of.l0] at H
        by_cases c10 : x17_1 < (t107.length : Int)
        · rw [if_pos c10] at H
          have c10b0 : decide (x17_1 < (t107.length : Int)) = true := decide_eq_true c10
          clear c10
          by_cases c11 : 0 ≤ x17_1
          · rw [if_pos c11] at H
            have c11b0 : decide (0 ≤ x17_1) = true := decide_eq_true c11
            clear c11
            by_cases c12 : x17_1 < (x3_1.length : Int)
            · rw [if_pos c12] at H
              have c12b0 : decide (x17_1 < (x3_1.length : Int)) = true := decide_eq_true c12
              clear c12
              by_cases c13 : x17_1 = 0
              · rw [if_pos c13] at H
                have c13b0 : (x17_1 == 0) = true := beq_iff_eq.mpr c13
                have c13b1 : (x17_1 != 0) = false := bne_eq_false_iff_eq.mpr c13
                clear c13
                have H' := Aside0.mk H
                clear H
                have p113 : 0 ≤ (x17_1 : Int) := of_decide_eq_true (by first | (with_reducible assumption) | assumption)
                have q113 : x17_1 < (x3_1.length : Int) := of_decide_eq_true (by first | (with_reducible assumption) | assumption)
                obtain ⟨ad113, e113, hx113_0, hx113_1, hx113_2⟩ := at_T41 (Kd.R_reads' HO_3.out).2.2 x17_1 p113 q113
                cases e113
                replace p113 := eq_true p113
                replace q113 := eq_true q113
                go_wp2_with (first | ((with_reducible refine gate_dst (N := 6) rfl ?_); refine box_event ?hg (N := 6) ?hd (cs := #[.int .i64 0, .int .i64 0, .string (⟨#[]⟩ : ByteArray)]) (t := 41) ?hr ?_; (case hd => rfl); (case hg => rfl); (case hr => first | (go_simp; done) | (go_simp; rfl)); intro gb114 hg w14 hbox hb; have n0_ := Aside0.mk (Kd.R_below (Kd.R_elderB (by (with_reducible repeat (first | apply Kd.R_alloc | apply Kd.R_drewN | apply Kd.R_drew)); exact HO_3.out) gb114 (Nat.le_of_eq hg.symm)) hb); have n1_ := Aside0.mk (below_step (by repeat (first | (with_reducible first | exact HB.out | apply below_alloc | apply pw_below_drewN | apply below_drew1) | exact HB.out)) hb); have n2_ := Aside0.mk (hbox); have n3_ := Aside0.mk ((by rw [hg]; exact (below_size (by repeat (first | (with_reducible first | exact HB.out | apply below_alloc | apply pw_below_drewN | apply below_drew1) | exact HB.out))) : w.heap.size ≤ gb114)); have n4_ := Aside0.mk ((by rw [hg]; exact (below_size (by repeat (first | (with_reducible first | exact HB.out | apply below_alloc | apply pw_below_drewN | apply below_drew1) | exact HB.out))) : w.heap.size ≤ gb114)); clear HO_3; clear HB; have HO_3 := n0_; have HB := n1_; have BK114 := n2_; have GW114 := n3_; have GE114 := n4_; clear n0_ n1_ n2_ n3_ n4_; clear hb hbox hg; have hcz15_0 : w14.cell? ⟨gb114, 0, none⟩ = some (.int .i64 0) := (blk_cell BK114.out 0).trans rfl; have hcz15_1 : w14.cell? ⟨gb114, 1, none⟩ = some (.int .i64 0) := (blk_cell BK114.out 1).trans rfl; have hcz15_2 : w14.cell? ⟨gb114, 2, none⟩ = some (.string (⟨#[]⟩ : ByteArray)) := (blk_cell BK114.out 2).trans rfl; have hfz15_0 := blk_frozen BK114.out 0; have hfz15_1 := blk_frozen BK114.out 1; have hfz15_2 := blk_frozen BK114.out 2))
                (try simp only [← hl3_1])
                go_roundg k1
                case measure => have := HK1.out; omega
                case rel => exact ⟨(x3_1), (x4_1), (wrap64 (x17_1 + 1)), (by first | rfl | (simp; done) | (simp [*]; done)), (by first | rfl | (simp; done) | (simp [*]; done)), H', ⟨by have := HK1.out; omega⟩, ⟨by (try simp only [hl3_1]); (with_reducible repeat (first | apply Kd.R_alloc | apply Kd.R_drewN | apply Kd.R_drew)); exact Kd.R_mono (Kd.R_far (p := ⟨gb114, 2, none⟩) (Kd.R_far (p := ⟨gb114, 1, none⟩) (Kd.R_far (p := ⟨gb114, 0, none⟩) (Kd.R_mono HO_3.out (fun k_ hk => (⟨hk, hk.2⟩ : _ ∧ k_ ≠ gb114))) (fun _ hk => hk.2) (.int .i64 ((rd_T41 x3_1 x17_1).f0))) (fun _ hk => hk.2) (.int .i64 ((rd_T41 x3_1 x17_1).f1))) (fun _ hk => hk.2) (.string ((rd_T41 x3_1 x17_1).f2))) (fun _ hk => trivial)⟩, ⟨by repeat (first | (with_reducible first | exact HB.out | apply below_alloc | apply pw_below_drewN | apply below_drew1 | refine below_set ?_ GE114.out) | exact HB.out)⟩⟩
              · rw [if_neg c13] at H
                have c13b0 : (x17_1 == 0) = false := beq_eq_false_iff_ne.mpr c13
                have c13b1 : (x17_1 != 0) = true := bne_iff_ne.mpr c13
                by_cases c16 : 0 ≤ x4_1
                · rw [if_pos c16] at H
                  have c16b0 : decide (0 ≤ x4_1) = true := decide_eq_true c16
                  clear c16
                  by_cases c17 : x4_1 < (x3_1.length : Int)
                  · rw [if_pos c17] at H
                    have c17b0 : decide (x4_1 < (x3_1.length : Int)) = true := decide_eq_true c17
                    clear c17
                    by_cases c18 : ((rd_T41 x3_1 x17_1).f0) = ((rd_T41 x3_1 x4_1).f0)
                    · rw [if_pos c18] at H
                      have c18b0 : (((rd_T41 x3_1 x17_1).f0) == ((rd_T41 x3_1 x4_1).f0)) = true := beq_iff_eq.mpr c18
                      have c18b1 : (((rd_T41 x3_1 x17_1).f0) != ((rd_T41 x3_1 x4_1).f0)) = false := bne_eq_false_iff_eq.mpr c18
                      clear c18
                      obtain ⟨y117, hy117⟩ : ∃ y_ : List (S41), y_ = (x3_1.set (x4_1 : Int).toNat (⟨(rd_T41 x3_1 x4_1).f0, wrap64 (((rd_T41 x3_1 x4_1).f1) + ((rd_T41 x3_1 x17_1).f1)), (rd_T41 x3_1 x4_1).f2⟩ : S41)) := ⟨_, rfl⟩
                      replace H : (if ((rd_T41 y117 x4_1).f2).size + ((rd_T41 x3_1 x17_1).f2).size ≤ 9223372036854775807 then (normal_Of.l0 k1 (y117.set (x4_1 : Int).toNat (⟨(rd_T41 y117 x4_1).f0, (rd_T41 y117 x4_1).f1, ((rd_T41 y117 x4_1).f2) ++ ((rd_T41 x3_1 x17_1).f2)⟩ : S41)) x4_1 (t107.length : Int) (wrap64 (x17_1 + 1))) else (none)) = some r := by first | (rw [hy117]; with_reducible exact H) | (have H2_ := (Option.bind_some _ _).symm.trans H; rw [hy117]; with_reducible exact H2_) | (have H2_ := (Option.bind_some _ _).symm.trans H; with_reducible exact H2_) | with_reducible exact H | (rw [hy117]; exact H) | exact H
                      have Ny117 := Aside0.mk hy117
                      clear hy117
                      by_cases c20 : ((rd_T41 y117 x4_1).f2).size + ((rd_T41 x3_1 x17_1).f2).size ≤ 9223372036854775807
                      · rw [if_pos c20] at H
                        have c20b0 := eq_true c20
                        have c20b1 : decide (((rd_T41 y117 x4_1).f2).size + ((rd_T41 x3_1 x17_1).f2).size ≤ 9223372036854775807) = true := decide_eq_true c20
                        try have c20b2 : (9223372036854775807 < ((rd_T41 y117 x4_1).f2).size + ((rd_T41 x3_1 x17_1).f2).size) = False := eq_false (Nat.not_lt.2 c20)
                        obtain ⟨y119, hy119⟩ : ∃ y_ : List (S41), y_ = (y117.set (x4_1 : Int).toNat (⟨(rd_T41 y117 x4_1).f0, (rd_T41 y117 x4_1).f1, ((rd_T41 y117 x4_1).f2) ++ ((rd_T41 x3_1 x17_1).f2)⟩ : S41)) := ⟨_, rfl⟩
                        replace H : (normal_Of.l0 k1 y119 x4_1 (t107.length : Int) (wrap64 (x17_1 + 1))) = some r := by first | (rw [hy119]; with_reducible exact H) | (have H2_ := (Option.bind_some _ _).symm.trans H; rw [hy119]; with_reducible exact H2_) | (have H2_ := (Option.bind_some _ _).symm.trans H; with_reducible exact H2_) | with_reducible exact H | (rw [hy119]; exact H) | exact H
                        have Ny119 := Aside0.mk hy119
                        clear hy119
                        have H' := Aside0.mk H
                        clear H
                        have p113 : 0 ≤ (x17_1 : Int) := of_decide_eq_true (by first | (with_reducible assumption) | assumption)
                        have q113 : x17_1 < (x3_1.length : Int) := of_decide_eq_true (by first | (with_reducible assumption) | assumption)
                        obtain ⟨ad113, e113, hx113_0, hx113_1, hx113_2⟩ := at_T41 (Kd.R_reads' HO_3.out).2.2 x17_1 p113 q113
                        cases e113
                        replace p113 := eq_true p113
                        replace q113 := eq_true q113
                        try go_wp2_with (first | ((with_reducible refine gate_dst (N := 6) rfl ?_); refine box_event ?hg (N := 6) ?hd (cs := #[.int .i64 0, .int .i64 0, .string (⟨#[]⟩ : ByteArray)]) (t := 41) ?hr ?_; (case hd => rfl); (case hg => rfl); (case hr => first | (go_simp; done) | (go_simp; rfl)); intro gb114 hg w22 hbox hb; have n0_ := Aside0.mk (Kd.R_below (Kd.R_elderB (by (with_reducible repeat (first | apply Kd.R_alloc | apply Kd.R_drewN | apply Kd.R_drew)); exact HO_3.out) gb114 (Nat.le_of_eq hg.symm)) hb); have n1_ := Aside0.mk (below_step (by repeat (first | (with_reducible first | exact HB.out | apply below_alloc | apply pw_below_drewN | apply below_drew1) | exact HB.out)) hb); have n2_ := Aside0.mk (hbox); have n3_ := Aside0.mk ((by rw [hg]; exact (below_size (by repeat (first | (with_reducible first | exact HB.out | apply below_alloc | apply pw_below_drewN | apply below_drew1) | exact HB.out))) : w.heap.size ≤ gb114)); have n4_ := Aside0.mk ((by rw [hg]; exact (below_size (by repeat (first | (with_reducible first | exact HB.out | apply below_alloc | apply pw_below_drewN | apply below_drew1) | exact HB.out))) : w.heap.size ≤ gb114)); clear HO_3; clear HB; have HO_3 := n0_; have HB := n1_; have BK114 := n2_; have GW114 := n3_; have GE114 := n4_; clear n0_ n1_ n2_ n3_ n4_; clear hb hbox hg; have hcz23_0 : w22.cell? ⟨gb114, 0, none⟩ = some (.int .i64 0) := (blk_cell BK114.out 0).trans rfl; have hcz23_1 : w22.cell? ⟨gb114, 1, none⟩ = some (.int .i64 0) := (blk_cell BK114.out 1).trans rfl; have hcz23_2 : w22.cell? ⟨gb114, 2, none⟩ = some (.string (⟨#[]⟩ : ByteArray)) := (blk_cell BK114.out 2).trans rfl; have hfz23_0 := blk_frozen BK114.out 0; have hfz23_1 := blk_frozen BK114.out 1; have hfz23_2 := blk_frozen BK114.out 2))
                        have n0_ : Aside0 (Kd.R k41 41 (((w22.setCell ⟨gb114, 0, none⟩ (.int .i64 ((rd_T41 x3_1 x17_1).f0))).setCell ⟨gb114, 1, none⟩ (.int .i64 ((rd_T41 x3_1 x17_1).f1))).setCell ⟨gb114, 2, none⟩ (.string ((rd_T41 x3_1 x17_1).f2))) w.heap.size (fun k_ => k_ ≠ gb114) (.slice (some ad113) x3_1.length co9) x3_1) := ⟨by (with_reducible repeat (first | apply Kd.R_alloc | apply Kd.R_drewN | apply Kd.R_drew)); exact Kd.R_mono (Kd.R_far (p := ⟨gb114, 2, none⟩) (Kd.R_far (p := ⟨gb114, 1, none⟩) (Kd.R_far (p := ⟨gb114, 0, none⟩) (Kd.R_mono HO_3.out (fun k_ hk => (⟨hk, hk.2⟩ : _ ∧ k_ ≠ gb114))) (fun _ hk => hk.2) (.int .i64 ((rd_T41 x3_1 x17_1).f0))) (fun _ hk => hk.2) (.int .i64 ((rd_T41 x3_1 x17_1).f1))) (fun _ hk => hk.2) (.string ((rd_T41 x3_1 x17_1).f2))) (fun _ hk => hk.1.2)⟩
                        have n1_ : Aside0 ((((w22.setCell ⟨gb114, 0, none⟩ (.int .i64 ((rd_T41 x3_1 x17_1).f0))).setCell ⟨gb114, 1, none⟩ (.int .i64 ((rd_T41 x3_1 x17_1).f1))).setCell ⟨gb114, 2, none⟩ (.string ((rd_T41 x3_1 x17_1).f2))).heap[gb114]? = some (.cells #[.int .i64 ((rd_T41 x3_1 x17_1).f0), .int .i64 ((rd_T41 x3_1 x17_1).f1), .string ((rd_T41 x3_1 x17_1).f2)] 41 (0, 0))) := ⟨by (with_reducible repeat (first | refine blk_drewN ?_ _ | refine blk_drew ?_ | refine blk_alloc ?_ _)); refine blk_put (cs := #[.int .i64 ((rd_T41 x3_1 x17_1).f0), .int .i64 ((rd_T41 x3_1 x17_1).f1), .string (⟨#[]⟩ : ByteArray)]) ?_ 2 _ rfl; (with_reducible repeat (first | refine blk_drewN ?_ _ | refine blk_drew ?_ | refine blk_alloc ?_ _)); refine blk_put (cs := #[.int .i64 ((rd_T41 x3_1 x17_1).f0), .int .i64 0, .string (⟨#[]⟩ : ByteArray)]) ?_ 1 _ rfl; (with_reducible repeat (first | refine blk_drewN ?_ _ | refine blk_drew ?_ | refine blk_alloc ?_ _)); refine blk_put (cs := #[.int .i64 0, .int .i64 0, .string (⟨#[]⟩ : ByteArray)]) ?_ 0 _ rfl; (with_reducible repeat (first | refine blk_drewN ?_ _ | refine blk_drew ?_ | refine blk_alloc ?_ _)); exact BK114.out⟩
                        have n2_ : Aside0 (Below w.heap.size w (((w22.setCell ⟨gb114, 0, none⟩ (.int .i64 ((rd_T41 x3_1 x17_1).f0))).setCell ⟨gb114, 1, none⟩ (.int .i64 ((rd_T41 x3_1 x17_1).f1))).setCell ⟨gb114, 2, none⟩ (.string ((rd_T41 x3_1 x17_1).f2)))) := ⟨by repeat (first | (with_reducible first | exact HB.out | apply below_alloc | apply pw_below_drewN | apply below_drew1 | refine below_set ?_ GE114.out) | exact HB.out)⟩
                        (try clear HO_3)
                        (try clear BK114)
                        (try clear HB)
                        generalize (((w22.setCell ⟨gb114, 0, none⟩ (.int .i64 ((rd_T41 x3_1 x17_1).f0))).setCell ⟨gb114, 1, none⟩ (.int .i64 ((rd_T41 x3_1 x17_1).f1))).setCell ⟨gb114, 2, none⟩ (.string ((rd_T41 x3_1 x17_1).f2))) = w24 at n0_ n1_ n2_ ⊢
                        have HO_3 := n0_
                        have BK114 := n1_
                        have HB := n2_
                        clear n0_ n1_ n2_
                        have n0_ := Aside0.mk (Kd.R_drew HO_3.out)
                        have n1_ := Aside0.mk (blk_drew BK114.out)
                        have n2_ := Aside0.mk (below_drew1 HB.out)
                        clear HO_3
                        clear BK114
                        clear HB
                        have HO_3 := n0_
                        have BK114 := n1_
                        have HB := n2_
                        clear n0_ n1_ n2_
                        have p115 : 0 ≤ (x4_1 : Int) := of_decide_eq_true (by first | (with_reducible assumption) | assumption)
                        have q115 : x4_1 < (x3_1.length : Int) := of_decide_eq_true (by first | (with_reducible assumption) | assumption)
                        obtain ⟨ad115, e115, hx115_0, hx115_1, hx115_2⟩ := at_T41 (Kd.R_reads' HO_3.out).2.2 x4_1 p115 q115
                        obtain rfl : ad113 = ad115 := (by injection e115)
                        replace p115 := eq_true p115
                        replace q115 := eq_true q115
                        refine start_ (n := 9) (S := fun w' => w'.cell? ⟨gb114, 0, none⟩ = some (.int .i64 ((rd_T41 x3_1 x17_1).f0)) ∧ w'.cell? ⟨gb114, 1, none⟩ = some (.int .i64 ((rd_T41 x3_1 x17_1).f1)) ∧ w'.cell? ⟨gb114, 2, none⟩ = some (.string ((rd_T41 x3_1 x17_1).f2)) ∧ w'.cell? (ad113.add ((x4_1).toNat * 3)) = some (.int .i64 ((rd_T41 x3_1 x4_1).f0)) ∧ w'.cell? ⟨(ad113.add ((x4_1).toNat * 3)).block, (ad113.add ((x4_1).toNat * 3)).off + 1, none⟩ = some (.int .i64 ((rd_T41 x3_1 x4_1).f1)) ∧ w'.cell? ⟨(ad113.add ((x4_1).toNat * 3)).block, (ad113.add ((x4_1).toNat * 3)).off + 2, none⟩ = some (.string ((rd_T41 x3_1 x4_1).f2))) (ds := []) #[false, false, false, false, false, false, false, false, false] (by kernel_rfl) rfl rfl ⟨(blk_cell BK114.out 0).trans rfl, (blk_cell BK114.out 1).trans rfl, (blk_cell BK114.out 2).trans rfl, hx115_0, hx115_1, hx115_2⟩ (fun hHeld => ?_); refine with_tabW normal_Of.tab11 normal_Of.bits11 (fun HT_ HW_ => ?_)
                        generalize w24.drew = w25 at HO_3 BK114 HB hx115_0 hx115_1 hx115_2 hHeld ⊢
                        refine pure_ (i := 0) (N := some 32) (v := ?_) (a' := ?_) #[true, false, false, false, false, false, false, false, false] rfl rfl (any_of HT_.out (by kernel_rfl)) (fun _ _ _ h => h) (Or.inl ⟨by rfl, ?_⟩) ?_ ?_
                        rotate_left
                        · intro w'
                          go_simp
                          with_reducible rfl
                        rotate_left
                        · simp only [Act.put, List.setIfInBounds_toArray, List.set_cons_zero, List.set_cons_succ, i64_w, i32_w]
                          rfl
                        refine pure_ (i := 2) (N := some 34) (v := ?_) (a' := ?_) #[true, false, true, false, false, false, false, false, false] rfl rfl (any_of HT_.out (by kernel_rfl)) (fun _ _ _ h => h) (Or.inl ⟨by rfl, ?_⟩) ?_ ?_
                        rotate_left
                        · intro w'
                          go_simp
                          with_reducible rfl
                        rotate_left
                        · simp only [Act.put, List.setIfInBounds_toArray, List.set_cons_zero, List.set_cons_succ, i64_w, i32_w]
                          rfl
                        refine pure_ (i := 3) (N := some 35) (v := ?_) (a' := ?_) #[true, false, true, true, false, false, false, false, false] rfl rfl (any_of HT_.out (by kernel_rfl)) (fun _ _ _ h => h) (Or.inl ⟨by rfl, ?_⟩) ?_ ?_
                        rotate_left
                        · intro w'
                          go_simp
                          with_reducible rfl
                        rotate_left
                        · simp only [Act.put, List.setIfInBounds_toArray, List.set_cons_zero, List.set_cons_succ, i64_w, i32_w]
                          rfl
                        refine pure_ (i := 4) (N := some 36) (v := ?_) (a' := ?_) #[true, false, true, true, true, false, false, false, false] rfl rfl (any_of HT_.out (by kernel_rfl)) (fun _ _ _ h => h) (Or.inl ⟨by rfl, ?_⟩) ?_ ?_
                        rotate_left
                        · intro w'
                          go_simp
                          with_reducible rfl
                        rotate_left
                        · simp only [Act.put, List.setIfInBounds_toArray, List.set_cons_zero, List.set_cons_succ, i64_w, i32_w]
                          rfl
                        refine pure_ (i := 5) (N := some 37) (v := ?_) (a' := ?_) #[true, false, true, true, true, true, false, false, false] rfl rfl (any_of HT_.out (by kernel_rfl)) (fun _ _ _ h => h) (Or.inl ⟨by rfl, ?_⟩) ?_ ?_
                        rotate_left
                        · intro w'
                          go_simp
                          with_reducible rfl
                        rotate_left
                        · simp only [Act.put, List.setIfInBounds_toArray, List.set_cons_zero, List.set_cons_succ, i64_w, i32_w]
                          rfl
                        refine take_ (i := 1) (N := some 33) (v := ?_) (a' := ?_) #[true, true, true, true, true, true, false, false, false] rfl rfl (take_ofW HT_.out HW_.out (by kernel_rfl)) (fun _ _ _ h => h) (Or.inl ⟨by rfl, ?_⟩) hHeld ?_ ?_
                        rotate_left
                        · rintro w' ⟨s0, s1, s2, s3, s4, s5⟩
                          go_simp
                          with_reducible rfl
                        rotate_left
                        · simp only [Act.put, List.setIfInBounds_toArray, List.set_cons_zero, List.set_cons_succ, i64_w, i32_w]
                          rfl
                        refine take_ (i := 6) (N := some 38) (v := ?_) (a' := ?_) #[true, true, true, true, true, true, true, false, false] rfl rfl (take_ofW HT_.out HW_.out (by kernel_rfl)) (fun _ _ _ h => h) (Or.inl ⟨by rfl, ?_⟩) hHeld ?_ ?_
                        rotate_left
                        · rintro w' ⟨s0, s1, s2, s3, s4, s5⟩
                          go_simp
                          with_reducible rfl
                        rotate_left
                        · simp only [Act.put, List.setIfInBounds_toArray, List.set_cons_zero, List.set_cons_succ, i64_w, i32_w]
                          rfl
                        refine pure_ (i := 7) (N := some 39) (v := ?_) (a' := ?_) #[true, true, true, true, true, true, true, true, false] rfl rfl (any_of HT_.out (by kernel_rfl)) (fun _ _ _ h => h) (Or.inl ⟨by rfl, ?_⟩) ?_ ?_
                        rotate_left
                        · intro w'
                          go_simp
                          with_reducible rfl
                        rotate_left
                        · simp only [Act.put, List.setIfInBounds_toArray, List.set_cons_zero, List.set_cons_succ, i64_w, i32_w]
                          rfl
                        refine pure_ (i := 8) (N := some 31) (v := ?_) (a' := ?_) #[true, true, true, true, true, true, true, true, true] rfl rfl (any_of HT_.out (by kernel_rfl)) (fun _ _ _ h => h) (Or.inl ⟨by rfl, ?_⟩) ?_ ?_
                        rotate_left
                        · intro w'
                          go_simp
                          with_reducible rfl
                        rotate_left
                        · simp only [Act.put, List.setIfInBounds_toArray, List.set_cons_zero, List.set_cons_succ, i64_w, i32_w]
                          rfl
                        refine done_ (done_of HT_.out (by kernel_rfl)) ?_
                        try go_wp2
                        have n0_ := Aside0.mk (Kd.R_drew HO_3.out)
                        have n1_ := Aside0.mk (blk_drew BK114.out)
                        have n2_ := Aside0.mk (below_drew1 HB.out)
                        clear HO_3
                        clear BK114
                        clear HB
                        have HO_3 := n0_
                        have BK114 := n1_
                        have HB := n2_
                        clear n0_ n1_ n2_
                        have p116 : 0 ≤ (x4_1 : Int) := of_decide_eq_true (by first | (with_reducible assumption) | assumption)
                        have q116 : x4_1 < (x3_1.length : Int) := of_decide_eq_true (by first | (with_reducible assumption) | assumption)
                        obtain ⟨ad116, e116, hx116_0, hx116_1, hx116_2⟩ := at_T41 (Kd.R_reads' HO_3.out).2.2 x4_1 p116 q116
                        obtain rfl : ad113 = ad116 := (by injection e116)
                        replace p116 := eq_true p116
                        replace q116 := eq_true q116
                        have p19 : 0 ≤ (x4_1 : Int) := of_decide_eq_true (by first | (with_reducible assumption) | assumption)
                        have q19 : (x4_1 : Int) < ((x3_1.length : Int) : Int) := of_decide_eq_true (by first | (with_reducible assumption) | assumption)
                        obtain ⟨go19, co19, eo19, gb19, gl19, cl19, HG19⟩ := Kd.R_form HO_3.out (by omega)
                        (first | cases eo19 | (injection eo19 with ea_ en_ ec_; (first | subst ea_ | (injection ea_ with ea_; subst ea_)); subst ec_; clear en_))
                        have GB19 := Aside0.mk gb19
                        have GG19 := Aside0.mk HG19
                        clear gb19 gl19 HG19
                        (first | simp only [add_plain] at hx113_0 | skip)
                        (first | simp only [add_plain] at hx113_1 | skip)
                        (first | simp only [add_plain] at hx113_2 | skip)
                        (first | simp only [add_plain] at hx115_0 | skip)
                        (first | simp only [add_plain] at hx115_1 | skip)
                        (first | simp only [add_plain] at hx115_2 | skip)
                        (first | simp only [add_plain] at hx116_0 | skip)
                        (first | simp only [add_plain] at hx116_1 | skip)
                        (first | simp only [add_plain] at hx116_2 | skip)
                        obtain ⟨ce19, hcl19, hM19, hcc19, hfr19⟩ := Kd.R_elem HO_3.out z41 (x4_1 : Int) p19 q19
                        obtain rfl := k41_openM hM19
                        have hx19_0 : World.cell? _ ⟨go19, (x4_1 : Int).toNat * 3, none⟩ = some (.int .i64 ((rd_T41 x3_1 x4_1).f0)) := hcc19 0 _ rfl
                        have hx19_1 : World.cell? _ ⟨go19, (x4_1 : Int).toNat * 3 + 1, none⟩ = some (.int .i64 ((rd_T41 x3_1 x4_1).f1)) := hcc19 1 _ rfl
                        have hx19_2 : World.cell? _ ⟨go19, (x4_1 : Int).toNat * 3 + 2, none⟩ = some (.string ((rd_T41 x3_1 x4_1).f2)) := hcc19 2 _ rfl
                        have hf19_0 : World.frozen? _ ⟨go19, (x4_1 : Int).toNat * 3, none⟩ = false := hfr19 0
                        have hf19_1 : World.frozen? _ ⟨go19, (x4_1 : Int).toNat * 3 + 1, none⟩ = false := hfr19 1
                        have hf19_2 : World.frozen? _ ⟨go19, (x4_1 : Int).toNat * 3 + 2, none⟩ = false := hfr19 2
                        clear hcl19 hcc19 hfr19 hM19
                        replace p19 := eq_true p19
                        replace q19 := eq_true q19
                        obtain ⟨ce27, hcl27, hM27, hcc27, hfr27⟩ := Kd.R_elem HO_3.out z41 (x4_1 : Int) (of_decide_eq_true (by first | (with_reducible assumption) | assumption)) (by have h_ : (x4_1 : Int) < ((x3_1.length : Int) : Int) := of_decide_eq_true (by first | (with_reducible assumption) | assumption); first | exact h_ | (have e_ := (Kd.R_reads' HO_3.out).1; omega) | simpa using h_)
                        obtain rfl := k41_openM hM27
                        have HP27 := (Kd.R_seg HO_3.out (x4_1 : Int) (of_decide_eq_true (by first | (with_reducible assumption) | assumption)) (by have h_ : (x4_1 : Int) < ((x3_1.length : Int) : Int) := of_decide_eq_true (by first | (with_reducible assumption) | assumption); first | exact h_ | (have e_ := (Kd.R_reads' HO_3.out).1; omega) | simpa using h_) (seg := [.int .i64 (wrap64 (((rd_T41 x3_1 x4_1).f1) + ((rd_T41 x3_1 x17_1).f1)))]) (j := 1) hcl27 hcc27 (show 2 ≤ 3 from by decide) (x' := (⟨(rd_T41 x3_1 x4_1).f0, wrap64 (((rd_T41 x3_1 x4_1).f1) + ((rd_T41 x3_1 x17_1).f1)), (rd_T41 x3_1 x4_1).f2⟩ : S41)) (k41_mkM _ _ _ (⟨(rd_T41 x3_1 x4_1).f0, wrap64 (((rd_T41 x3_1 x4_1).f1) + ((rd_T41 x3_1 x17_1).f1)), (rd_T41 x3_1 x4_1).f2⟩ : S41) ) (fun _ hk => hk)).1
                        rw [← Ny117.out] at HP27
                        have HQ27 := Aside0.mk HP27
                        clear hcl27 hcc27 hfr27 hM27 HP27
                        refine start_ (n := 11) (S := fun w' => w'.cell? ⟨gb114, 0, none⟩ = some (.int .i64 ((rd_T41 x3_1 x17_1).f0)) ∧ w'.cell? ⟨gb114, 1, none⟩ = some (.int .i64 ((rd_T41 x3_1 x17_1).f1)) ∧ w'.cell? ⟨gb114, 2, none⟩ = some (.string ((rd_T41 x3_1 x17_1).f2)) ∧ w'.cell? ⟨go19, ((x4_1).toNat * 3), none⟩ = some (.int .i64 ((rd_T41 x3_1 x4_1).f0)) ∧ w'.cell? ⟨go19, ((x4_1).toNat * 3) + 1, none⟩ = some (.int .i64 ((rd_T41 x3_1 x4_1).f1)) ∧ w'.cell? ⟨go19, ((x4_1).toNat * 3) + 2, none⟩ = some (.string ((rd_T41 x3_1 x4_1).f2))) (ds := [10]) #[false, false, false, false, false, false, false, false, false, false, false] (by kernel_rfl) rfl rfl ⟨(blk_cell BK114.out 0).trans rfl, (blk_cell BK114.out 1).trans rfl, (blk_cell BK114.out 2).trans rfl, hx116_0, hx116_1, hx116_2⟩ (fun hHeld => ?_); refine with_tabW normal_Of.tab12 normal_Of.bits12 (fun HT_ HW_ => ?_)
                        generalize w25.drew = w26 at HO_3 BK114 HB GG19 HQ27 hf19_0 hf19_1 hf19_2 hx113_0 hx113_1 hx113_2 hx115_0 hx115_1 hx115_2 hx116_0 hx116_1 hx116_2 hx19_0 hx19_1 hx19_2 hHeld ⊢
                        refine pure_ (i := 0) (N := some 40) (v := ?_) (a' := ?_) #[true, false, false, false, false, false, false, false, false, false, false] rfl rfl (any_of HT_.out (by kernel_rfl)) (fun _ _ _ h => h) (Or.inl ⟨by rfl, ?_⟩) ?_ ?_
                        rotate_left
                        · intro w'
                          go_simp
                          with_reducible rfl
                        rotate_left
                        · simp only [Act.put, List.setIfInBounds_toArray, List.set_cons_zero, List.set_cons_succ, i64_w, i32_w]
                          rfl
                        refine pure_ (i := 1) (N := some 41) (v := ?_) (a' := ?_) #[true, true, false, false, false, false, false, false, false, false, false] rfl rfl (any_of HT_.out (by kernel_rfl)) (fun _ _ _ h => h) (Or.inl ⟨by rfl, ?_⟩) ?_ ?_
                        rotate_left
                        · intro w'
                          go_simp
                          with_reducible rfl
                        rotate_left
                        · simp only [Act.put, List.setIfInBounds_toArray, List.set_cons_zero, List.set_cons_succ, i64_w, i32_w]
                          rfl
                        refine pure_ (i := 2) (N := some 42) (v := ?_) (a' := ?_) #[true, true, true, false, false, false, false, false, false, false, false] rfl rfl (any_of HT_.out (by kernel_rfl)) (fun _ _ _ h => h) (Or.inl ⟨by rfl, ?_⟩) ?_ ?_
                        rotate_left
                        · intro w'
                          go_simp
                          with_reducible rfl
                        rotate_left
                        · simp only [Act.put, List.setIfInBounds_toArray, List.set_cons_zero, List.set_cons_succ, i64_w, i32_w]
                          rfl
                        refine pure_ (i := 3) (N := some 43) (v := ?_) (a' := ?_) #[true, true, true, true, false, false, false, false, false, false, false] rfl rfl (any_of HT_.out (by kernel_rfl)) (fun _ _ _ h => h) (Or.inl ⟨by rfl, ?_⟩) ?_ ?_
                        rotate_left
                        · intro w'
                          go_simp
                          with_reducible rfl
                        rotate_left
                        · simp only [Act.put, List.setIfInBounds_toArray, List.set_cons_zero, List.set_cons_succ, i64_w, i32_w]
                          rfl
                        refine pure_ (i := 5) (N := some 45) (v := ?_) (a' := ?_) #[true, true, true, true, false, true, false, false, false, false, false] rfl rfl (any_of HT_.out (by kernel_rfl)) (fun _ _ _ h => h) (Or.inl ⟨by rfl, ?_⟩) ?_ ?_
                        rotate_left
                        · intro w'
                          go_simp
                          with_reducible rfl
                        rotate_left
                        · simp only [Act.put, List.setIfInBounds_toArray, List.set_cons_zero, List.set_cons_succ, i64_w, i32_w]
                          rfl
                        refine take_ (i := 4) (N := some 44) (v := ?_) (a' := ?_) #[true, true, true, true, true, true, false, false, false, false, false] rfl rfl (take_ofW HT_.out HW_.out (by kernel_rfl)) (fun _ _ _ h => h) (Or.inl ⟨by rfl, ?_⟩) hHeld ?_ ?_
                        rotate_left
                        · rintro w' ⟨s0, s1, s2, s3, s4, s5⟩
                          go_simp
                          with_reducible rfl
                        rotate_left
                        · simp only [Act.put, List.setIfInBounds_toArray, List.set_cons_zero, List.set_cons_succ, i64_w, i32_w]
                          rfl
                        refine take_ (i := 6) (N := some 46) (v := ?_) (a' := ?_) #[true, true, true, true, true, true, true, false, false, false, false] rfl rfl (take_ofW HT_.out HW_.out (by kernel_rfl)) (fun _ _ _ h => h) (Or.inl ⟨by rfl, ?_⟩) hHeld ?_ ?_
                        rotate_left
                        · rintro w' ⟨s0, s1, s2, s3, s4, s5⟩
                          go_simp
                          with_reducible rfl
                        rotate_left
                        · simp only [Act.put, List.setIfInBounds_toArray, List.set_cons_zero, List.set_cons_succ, i64_w, i32_w]
                          rfl
                        refine pure_ (i := 7) (N := some 47) (v := ?_) (a' := ?_) #[true, true, true, true, true, true, true, true, false, false, false] rfl rfl (any_of HT_.out (by kernel_rfl)) (fun _ _ _ h => h) (Or.inl ⟨by rfl, ?_⟩) ?_ ?_
                        rotate_left
                        · intro w'
                          go_simp
                          with_reducible rfl
                        rotate_left
                        · simp only [Act.put, List.setIfInBounds_toArray, List.set_cons_zero, List.set_cons_succ, i64_w, i32_w]
                          rfl
                        refine pure_ (i := 8) (N := some 48) (v := ?_) (a' := ?_) #[true, true, true, true, true, true, true, true, true, false, false] rfl rfl (any_of HT_.out (by kernel_rfl)) (fun _ _ _ h => h) (Or.inl ⟨by rfl, ?_⟩) ?_ ?_
                        rotate_left
                        · intro w'
                          go_simp
                          with_reducible rfl
                        rotate_left
                        · simp only [Act.put, List.setIfInBounds_toArray, List.set_cons_zero, List.set_cons_succ, i64_w, i32_w]
                          rfl
                        refine pure_ (i := 9) (N := some 49) (v := ?_) (a' := ?_) #[true, true, true, true, true, true, true, true, true, true, false] rfl rfl (any_of HT_.out (by kernel_rfl)) (fun _ _ _ h => h) (Or.inl ⟨by rfl, ?_⟩) ?_ ?_
                        rotate_left
                        · intro w'
                          go_simp
                          with_reducible rfl
                        rotate_left
                        · simp only [Act.put, List.setIfInBounds_toArray, List.set_cons_zero, List.set_cons_succ, i64_w, i32_w]
                          rfl
                        refine last_ (i := 10) (N := none) #[true, true, true, true, true, true, true, true, true, true, true] rfl rfl (one_of HT_.out (by kernel_rfl)) (by decide) (fun K hK => ?_)
                        refine skip_ (w1 := ?_) (by rfl) rfl ?_ ?_
                        rotate_left
                        · go_simp
                          rfl
                        refine hK.out _ _ ?_
                        clear hK K
                        refine done_ (done_of HT_.out (by kernel_rfl)) ?_
                        try go_wp2
                        have n0_ : Aside0 (Kd.R k41 41 (w26.setCell ⟨go19, (x4_1 : Int).toNat * 3 + 1, none⟩ (.int .i64 (wrap64 (((rd_T41 x3_1 x4_1).f1) + ((rd_T41 x3_1 x17_1).f1))))) w.heap.size (fun k_ => k_ ≠ gb114) (.slice (some ⟨go19, 0, none⟩) x3_1.length co9) y117) := ⟨by (with_reducible repeat (first | apply Kd.R_alloc | apply Kd.R_drewN | apply Kd.R_drew)); exact HQ27.out⟩
                        have n1_ : Aside0 ((w26.setCell ⟨go19, (x4_1 : Int).toNat * 3 + 1, none⟩ (.int .i64 (wrap64 (((rd_T41 x3_1 x4_1).f1) + ((rd_T41 x3_1 x17_1).f1))))).heap[gb114]? = some (.cells #[.int .i64 ((rd_T41 x3_1 x17_1).f0), .int .i64 ((rd_T41 x3_1 x17_1).f1), .string ((rd_T41 x3_1 x17_1).f2)] 41 (0, 0))) := ⟨by (with_reducible repeat (first | refine blk_drewN ?_ _ | refine blk_drew ?_ | refine blk_alloc ?_ _)); refine blk_far ?_ (by have h_ := Kd.R_away HO_3.out (fun _ hk => hk); intro e_; exact h_ (by rw [e_]; rfl)) _; (with_reducible repeat (first | refine blk_drewN ?_ _ | refine blk_drew ?_ | refine blk_alloc ?_ _)); exact BK114.out⟩
                        have n2_ : Aside0 (Below w.heap.size w (w26.setCell ⟨go19, (x4_1 : Int).toNat * 3 + 1, none⟩ (.int .i64 (wrap64 (((rd_T41 x3_1 x4_1).f1) + ((rd_T41 x3_1 x17_1).f1)))))) := ⟨by repeat (first | (with_reducible first | exact HB.out | apply below_alloc | apply pw_below_drewN | apply below_drew1 | refine below_set ?_ GB19.out | refine below_set ?_ GE114.out) | exact HB.out)⟩
                        (try clear HO_3)
                        (try clear BK114)
                        (try clear HB)
                        generalize (w26.setCell ⟨go19, (x4_1 : Int).toNat * 3 + 1, none⟩ (.int .i64 (wrap64 (((rd_T41 x3_1 x4_1).f1) + ((rd_T41 x3_1 x17_1).f1))))) = w28 at n0_ n1_ n2_ ⊢
                        have HO_3 := n0_
                        have BK114 := n1_
                        have HB := n2_
                        clear n0_ n1_ n2_
                        have n0_ := Aside0.mk (Kd.R_drew HO_3.out)
                        have n1_ := Aside0.mk (blk_drew BK114.out)
                        have n2_ := Aside0.mk (below_drew1 HB.out)
                        clear HO_3
                        clear BK114
                        clear HB
                        have HO_3 := n0_
                        have BK114 := n1_
                        have HB := n2_
                        clear n0_ n1_ n2_
                        have p118 : 0 ≤ (x4_1 : Int) := of_decide_eq_true (by first | (with_reducible assumption) | assumption)
                        have q118 : x4_1 < (y117.length : Int) := (by have h_ : (x4_1 : Int) < ((x3_1.length : Int) : Int) := of_decide_eq_true (by first | (with_reducible assumption) | assumption); first | (have e_ := (Kd.R_reads' HO_3.out).1; omega) | simpa only [Ny117.out, List.length_set] using h_)
                        have ql118 : ((x4_1 : Int) < ((x3_1.length : Int) : Int)) = True := eq_true (of_decide_eq_true (by first | (with_reducible assumption) | assumption))
                        obtain ⟨ad118, e118, hx118_0, hx118_1, hx118_2⟩ := at_T41 (Kd.R_reads' HO_3.out).2.2 x4_1 p118 q118
                        obtain rfl : (⟨go19, 0, none⟩ : Addr) = ad118 := (by injection e118)
                        (first | simp only [add_plain] at hx118_0 | simp only [add_at] at hx118_0 | simp only [Addr.add, Nat.zero_add] at hx118_0 | skip)
                        (first | simp only [add_plain] at hx118_1 | simp only [add_at] at hx118_1 | simp only [Addr.add, Nat.zero_add] at hx118_1 | skip)
                        (first | simp only [add_plain] at hx118_2 | simp only [add_at] at hx118_2 | simp only [Addr.add, Nat.zero_add] at hx118_2 | skip)
                        replace p118 := eq_true p118
                        replace q118 := eq_true q118
                        have p21 : 0 ≤ (x4_1 : Int) := of_decide_eq_true (by first | (with_reducible assumption) | assumption)
                        have q21 : (x4_1 : Int) < ((x3_1.length : Int) : Int) := of_decide_eq_true (by first | (with_reducible assumption) | assumption)
                        obtain ⟨ce21, hcl21, hM21, hcc21, hfr21⟩ := Kd.R_elem HO_3.out z41 (x4_1 : Int) p21 q21
                        obtain rfl := k41_openM hM21
                        have hx21_0 : World.cell? _ ⟨go19, (x4_1 : Int).toNat * 3, none⟩ = some (.int .i64 ((rd_T41 y117 x4_1).f0)) := hcc21 0 _ rfl
                        have hx21_1 : World.cell? _ ⟨go19, (x4_1 : Int).toNat * 3 + 1, none⟩ = some (.int .i64 ((rd_T41 y117 x4_1).f1)) := hcc21 1 _ rfl
                        have hx21_2 : World.cell? _ ⟨go19, (x4_1 : Int).toNat * 3 + 2, none⟩ = some (.string ((rd_T41 y117 x4_1).f2)) := hcc21 2 _ rfl
                        have hf21_0 : World.frozen? _ ⟨go19, (x4_1 : Int).toNat * 3, none⟩ = false := hfr21 0
                        have hf21_1 : World.frozen? _ ⟨go19, (x4_1 : Int).toNat * 3 + 1, none⟩ = false := hfr21 1
                        have hf21_2 : World.frozen? _ ⟨go19, (x4_1 : Int).toNat * 3 + 2, none⟩ = false := hfr21 2
                        clear hcl21 hcc21 hfr21 hM21
                        replace p21 := eq_true p21
                        replace q21 := eq_true q21
                        obtain ⟨ce30, hcl30, hM30, hcc30, hfr30⟩ := Kd.R_elem HO_3.out z41 (x4_1 : Int) (of_decide_eq_true (by first | (with_reducible assumption) | assumption)) (by have h_ : (x4_1 : Int) < ((x3_1.length : Int) : Int) := of_decide_eq_true (by first | (with_reducible assumption) | assumption); first | exact h_ | (have e_ := (Kd.R_reads' HO_3.out).1; omega) | simpa using h_)
                        obtain rfl := k41_openM hM30
                        have HP30 := (Kd.R_seg HO_3.out (x4_1 : Int) (of_decide_eq_true (by first | (with_reducible assumption) | assumption)) (by have h_ : (x4_1 : Int) < ((x3_1.length : Int) : Int) := of_decide_eq_true (by first | (with_reducible assumption) | assumption); first | exact h_ | (have e_ := (Kd.R_reads' HO_3.out).1; omega) | simpa using h_) (seg := [.string (((rd_T41 y117 x4_1).f2) ++ ((rd_T41 x3_1 x17_1).f2))]) (j := 2) hcl30 hcc30 (show 3 ≤ 3 from by decide) (x' := (⟨(rd_T41 y117 x4_1).f0, (rd_T41 y117 x4_1).f1, ((rd_T41 y117 x4_1).f2) ++ ((rd_T41 x3_1 x17_1).f2)⟩ : S41)) (k41_mkM _ _ _ (⟨(rd_T41 y117 x4_1).f0, (rd_T41 y117 x4_1).f1, ((rd_T41 y117 x4_1).f2) ++ ((rd_T41 x3_1 x17_1).f2)⟩ : S41) ) (fun _ hk => hk)).1
                        rw [← Ny119.out] at HP30
                        have HQ30 := Aside0.mk HP30
                        clear hcl30 hcc30 hfr30 hM30 HP30
                        refine start_ (n := 11) (S := fun w' => w'.cell? ⟨gb114, 0, none⟩ = some (.int .i64 ((rd_T41 x3_1 x17_1).f0)) ∧ w'.cell? ⟨gb114, 1, none⟩ = some (.int .i64 ((rd_T41 x3_1 x17_1).f1)) ∧ w'.cell? ⟨gb114, 2, none⟩ = some (.string ((rd_T41 x3_1 x17_1).f2)) ∧ w'.cell? ⟨go19, (x4_1).toNat * 3, none⟩ = some (.int .i64 ((rd_T41 y117 x4_1).f0)) ∧ w'.cell? ⟨go19, (x4_1).toNat * 3 + 1, none⟩ = some (.int .i64 ((rd_T41 y117 x4_1).f1)) ∧ w'.cell? ⟨go19, (x4_1).toNat * 3 + 2, none⟩ = some (.string ((rd_T41 y117 x4_1).f2))) (ds := [10]) #[false, false, false, false, false, false, false, false, false, false, false] (by kernel_rfl) rfl rfl ⟨(blk_cell BK114.out 0).trans rfl, (blk_cell BK114.out 1).trans rfl, (blk_cell BK114.out 2).trans rfl, hx118_0, hx118_1, hx118_2⟩ (fun hHeld => ?_); refine with_tabW normal_Of.tab13 normal_Of.bits13 (fun HT_ HW_ => ?_)
                        generalize w28.drew = w29 at HO_3 BK114 HB HQ27 HQ30 hf21_0 hf21_1 hf21_2 hx118_0 hx118_1 hx118_2 hx21_0 hx21_1 hx21_2 hHeld ⊢
                        refine pure_ (i := 0) (N := some 50) (v := ?_) (a' := ?_) #[true, false, false, false, false, false, false, false, false, false, false] rfl rfl (any_of HT_.out (by kernel_rfl)) (fun _ _ _ h => h) (Or.inl ⟨by rfl, ?_⟩) ?_ ?_
                        rotate_left
                        · intro w'
                          go_simp
                          with_reducible rfl
                        rotate_left
                        · simp only [Act.put, List.setIfInBounds_toArray, List.set_cons_zero, List.set_cons_succ, i64_w, i32_w]
                          rfl
                        refine pure_ (i := 1) (N := some 51) (v := ?_) (a' := ?_) #[true, true, false, false, false, false, false, false, false, false, false] rfl rfl (any_of HT_.out (by kernel_rfl)) (fun _ _ _ h => h) (Or.inl ⟨by rfl, ?_⟩) ?_ ?_
                        rotate_left
                        · intro w'
                          go_simp
                          with_reducible rfl
                        rotate_left
                        · simp only [Act.put, List.setIfInBounds_toArray, List.set_cons_zero, List.set_cons_succ, i64_w, i32_w]
                          rfl
                        refine pure_ (i := 2) (N := some 52) (v := ?_) (a' := ?_) #[true, true, true, false, false, false, false, false, false, false, false] rfl rfl (any_of HT_.out (by kernel_rfl)) (fun _ _ _ h => h) (Or.inl ⟨by rfl, ?_⟩) ?_ ?_
                        rotate_left
                        · intro w'
                          go_simp
                          with_reducible rfl
                        rotate_left
                        · simp only [Act.put, List.setIfInBounds_toArray, List.set_cons_zero, List.set_cons_succ, i64_w, i32_w]
                          rfl
                        refine pure_ (i := 3) (N := some 53) (v := ?_) (a' := ?_) #[true, true, true, true, false, false, false, false, false, false, false] rfl rfl (any_of HT_.out (by kernel_rfl)) (fun _ _ _ h => h) (Or.inl ⟨by rfl, ?_⟩) ?_ ?_
                        rotate_left
                        · intro w'
                          go_simp
                          with_reducible rfl
                        rotate_left
                        · simp only [Act.put, List.setIfInBounds_toArray, List.set_cons_zero, List.set_cons_succ, i64_w, i32_w]
                          rfl
                        refine pure_ (i := 5) (N := some 55) (v := ?_) (a' := ?_) #[true, true, true, true, false, true, false, false, false, false, false] rfl rfl (any_of HT_.out (by kernel_rfl)) (fun _ _ _ h => h) (Or.inl ⟨by rfl, ?_⟩) ?_ ?_
                        rotate_left
                        · intro w'
                          go_simp
                          with_reducible rfl
                        rotate_left
                        · simp only [Act.put, List.setIfInBounds_toArray, List.set_cons_zero, List.set_cons_succ, i64_w, i32_w]
                          rfl
                        refine take_ (i := 4) (N := some 54) (v := ?_) (a' := ?_) #[true, true, true, true, true, true, false, false, false, false, false] rfl rfl (take_ofW HT_.out HW_.out (by kernel_rfl)) (fun _ _ _ h => h) (Or.inl ⟨by rfl, ?_⟩) hHeld ?_ ?_
                        rotate_left
                        · rintro w' ⟨s0, s1, s2, s3, s4, s5⟩
                          go_simp
                          with_reducible rfl
                        rotate_left
                        · simp only [Act.put, List.setIfInBounds_toArray, List.set_cons_zero, List.set_cons_succ, i64_w, i32_w]
                          rfl
                        refine take_ (i := 6) (N := some 56) (v := ?_) (a' := ?_) #[true, true, true, true, true, true, true, false, false, false, false] rfl rfl (take_ofW HT_.out HW_.out (by kernel_rfl)) (fun _ _ _ h => h) (Or.inl ⟨by rfl, ?_⟩) hHeld ?_ ?_
                        rotate_left
                        · rintro w' ⟨s0, s1, s2, s3, s4, s5⟩
                          go_simp
                          with_reducible rfl
                        rotate_left
                        · simp only [Act.put, List.setIfInBounds_toArray, List.set_cons_zero, List.set_cons_succ, i64_w, i32_w]
                          rfl
                        refine pure_ (i := 7) (N := some 57) (v := ?_) (a' := ?_) #[true, true, true, true, true, true, true, true, false, false, false] rfl rfl (any_of HT_.out (by kernel_rfl)) (fun _ _ _ h => h) (Or.inl ⟨by rfl, ?_⟩) ?_ ?_
                        rotate_left
                        · intro w'
                          go_simp
                          with_reducible rfl
                        rotate_left
                        · simp only [Act.put, List.setIfInBounds_toArray, List.set_cons_zero, List.set_cons_succ, i64_w, i32_w]
                          rfl
                        refine pure_ (i := 8) (N := some 58) (v := ?_) (a' := ?_) #[true, true, true, true, true, true, true, true, true, false, false] rfl rfl (any_of HT_.out (by kernel_rfl)) (fun _ _ _ h => h) (Or.inl ⟨by rfl, ?_⟩) ?_ ?_
                        rotate_left
                        · intro w'
                          go_simp
                          with_reducible rfl
                        rotate_left
                        · simp only [Act.put, List.setIfInBounds_toArray, List.set_cons_zero, List.set_cons_succ, i64_w, i32_w]
                          rfl
                        refine pure_ (i := 9) (N := some 59) (v := ?_) (a' := ?_) #[true, true, true, true, true, true, true, true, true, true, false] rfl rfl (any_of HT_.out (by kernel_rfl)) (fun _ _ _ h => h) (Or.inl ⟨by rfl, ?_⟩) ?_ ?_
                        rotate_left
                        · intro w'
                          go_simp
                          with_reducible rfl
                        rotate_left
                        · simp only [Act.put, List.setIfInBounds_toArray, List.set_cons_zero, List.set_cons_succ, i64_w, i32_w]
                          rfl
                        refine last_ (i := 10) (N := none) #[true, true, true, true, true, true, true, true, true, true, true] rfl rfl (one_of HT_.out (by kernel_rfl)) (by decide) (fun K hK => ?_)
                        refine skip_ (w1 := ?_) (by rfl) rfl ?_ ?_
                        rotate_left
                        · go_simp
                          rfl
                        refine hK.out _ _ ?_
                        clear hK K
                        refine done_ (done_of HT_.out (by kernel_rfl)) ?_
                        try go_wp2
                        (try simp only [← hl3_1])
                        go_roundg k1
                        case measure => have := HK1.out; omega
                        case rel => exact ⟨(y119), (x4_1), (wrap64 (x17_1 + 1)), (by first | rfl | (simp; done) | (simp [*]; done)), (by first | rfl | (simp; done) | (simp [*]; done)), H', ⟨by have := HK1.out; omega⟩, ⟨by (try simp only [hl3_1]); (with_reducible repeat (first | apply Kd.R_alloc | apply Kd.R_drewN | apply Kd.R_drew)); exact Kd.R_mono HQ30.out (fun _ hk => trivial)⟩, ⟨by repeat (first | (with_reducible first | exact HB.out | apply below_alloc | apply pw_below_drewN | apply below_drew1 | refine below_set ?_ GB19.out | refine below_set ?_ GE114.out) | exact HB.out)⟩⟩
                      · rw [if_neg c20] at H
                        exact absurd H (by simp)
                    · rw [if_neg c18] at H
                      have c18b0 : (((rd_T41 x3_1 x17_1).f0) == ((rd_T41 x3_1 x4_1).f0)) = false := beq_eq_false_iff_ne.mpr c18
                      have c18b1 : (((rd_T41 x3_1 x17_1).f0) != ((rd_T41 x3_1 x4_1).f0)) = true := bne_iff_ne.mpr c18
                      obtain ⟨ji31, hji31⟩ : ∃ j_ : Int, (wrap64 (x4_1 + 1)) = j_ := ⟨_, rfl⟩
                      replace H : (if 0 ≤ (ji31) then (if (ji31) < (x3_1.length : Int) then (normal_Of.l0 k1 (x3_1.set ((ji31) : Int).toNat (⟨(rd_T41 x3_1 x17_1).f0, (rd_T41 x3_1 x17_1).f1, (rd_T41 x3_1 x17_1).f2⟩ : S41)) ji31 (t107.length : Int) (wrap64 (x17_1 + 1))) else (none)) else (none)) = some r := by first | (rw [hji31] at H; exact H) | (simp only [hji31] at H ⊢; exact H)
                      have hji31w : (IntKind.i64.wrap (x4_1 + 1)) = ji31 := (i64_w _).trans hji31
                      by_cases c32 : 0 ≤ (ji31)
                      · rw [if_pos c32] at H
                        have c32b0 : decide (0 ≤ (ji31)) = true := decide_eq_true c32
                        clear c32
                        by_cases c33 : (ji31) < (x3_1.length : Int)
                        · rw [if_pos c33] at H
                          have c33b0 : decide ((ji31) < (x3_1.length : Int)) = true := decide_eq_true c33
                          clear c33
                          obtain ⟨y120, hy120⟩ : ∃ y_ : List (S41), y_ = (x3_1.set ((ji31) : Int).toNat (⟨(rd_T41 x3_1 x17_1).f0, (rd_T41 x3_1 x17_1).f1, (rd_T41 x3_1 x17_1).f2⟩ : S41)) := ⟨_, rfl⟩
                          replace H : (normal_Of.l0 k1 y120 ji31 (t107.length : Int) (wrap64 (x17_1 + 1))) = some r := by first | (rw [hy120]; with_reducible exact H) | (have H2_ := (Option.bind_some _ _).symm.trans H; rw [hy120]; with_reducible exact H2_) | (have H2_ := (Option.bind_some _ _).symm.trans H; with_reducible exact H2_) | with_reducible exact H | (rw [hy120]; exact H) | exact H
                          have Ny120 := Aside0.mk hy120
                          clear hy120
                          have H' := Aside0.mk H
                          clear H
                          have p113 : 0 ≤ (x17_1 : Int) := of_decide_eq_true (by first | (with_reducible assumption) | assumption)
                          have q113 : x17_1 < (x3_1.length : Int) := of_decide_eq_true (by first | (with_reducible assumption) | assumption)
                          obtain ⟨ad113, e113, hx113_0, hx113_1, hx113_2⟩ := at_T41 (Kd.R_reads' HO_3.out).2.2 x17_1 p113 q113
                          cases e113
                          replace p113 := eq_true p113
                          replace q113 := eq_true q113
                          try go_wp2_with (first | ((with_reducible refine gate_dst (N := 6) rfl ?_); refine box_event ?hg (N := 6) ?hd (cs := #[.int .i64 0, .int .i64 0, .string (⟨#[]⟩ : ByteArray)]) (t := 41) ?hr ?_; (case hd => rfl); (case hg => rfl); (case hr => first | (go_simp; done) | (go_simp; rfl)); intro gb114 hg w35 hbox hb; have n0_ := Aside0.mk (Kd.R_below (Kd.R_elderB (by (with_reducible repeat (first | apply Kd.R_alloc | apply Kd.R_drewN | apply Kd.R_drew)); exact HO_3.out) gb114 (Nat.le_of_eq hg.symm)) hb); have n1_ := Aside0.mk (below_step (by repeat (first | (with_reducible first | exact HB.out | apply below_alloc | apply pw_below_drewN | apply below_drew1) | exact HB.out)) hb); have n2_ := Aside0.mk (hbox); have n3_ := Aside0.mk ((by rw [hg]; exact (below_size (by repeat (first | (with_reducible first | exact HB.out | apply below_alloc | apply pw_below_drewN | apply below_drew1) | exact HB.out))) : w.heap.size ≤ gb114)); have n4_ := Aside0.mk ((by rw [hg]; exact (below_size (by repeat (first | (with_reducible first | exact HB.out | apply below_alloc | apply pw_below_drewN | apply below_drew1) | exact HB.out))) : w.heap.size ≤ gb114)); clear HO_3; clear HB; have HO_3 := n0_; have HB := n1_; have BK114 := n2_; have GW114 := n3_; have GE114 := n4_; clear n0_ n1_ n2_ n3_ n4_; clear hb hbox hg; have hcz36_0 : w35.cell? ⟨gb114, 0, none⟩ = some (.int .i64 0) := (blk_cell BK114.out 0).trans rfl; have hcz36_1 : w35.cell? ⟨gb114, 1, none⟩ = some (.int .i64 0) := (blk_cell BK114.out 1).trans rfl; have hcz36_2 : w35.cell? ⟨gb114, 2, none⟩ = some (.string (⟨#[]⟩ : ByteArray)) := (blk_cell BK114.out 2).trans rfl; have hfz36_0 := blk_frozen BK114.out 0; have hfz36_1 := blk_frozen BK114.out 1; have hfz36_2 := blk_frozen BK114.out 2))
                          have n0_ : Aside0 (Kd.R k41 41 (((w35.setCell ⟨gb114, 0, none⟩ (.int .i64 ((rd_T41 x3_1 x17_1).f0))).setCell ⟨gb114, 1, none⟩ (.int .i64 ((rd_T41 x3_1 x17_1).f1))).setCell ⟨gb114, 2, none⟩ (.string ((rd_T41 x3_1 x17_1).f2))) w.heap.size (fun k_ => k_ ≠ gb114) (.slice (some ad113) x3_1.length co9) x3_1) := ⟨by (with_reducible repeat (first | apply Kd.R_alloc | apply Kd.R_drewN | apply Kd.R_drew)); exact Kd.R_mono (Kd.R_far (p := ⟨gb114, 2, none⟩) (Kd.R_far (p := ⟨gb114, 1, none⟩) (Kd.R_far (p := ⟨gb114, 0, none⟩) (Kd.R_mono HO_3.out (fun k_ hk => (⟨hk, hk.2⟩ : _ ∧ k_ ≠ gb114))) (fun _ hk => hk.2) (.int .i64 ((rd_T41 x3_1 x17_1).f0))) (fun _ hk => hk.2) (.int .i64 ((rd_T41 x3_1 x17_1).f1))) (fun _ hk => hk.2) (.string ((rd_T41 x3_1 x17_1).f2))) (fun _ hk => hk.1.2)⟩
                          have n1_ : Aside0 ((((w35.setCell ⟨gb114, 0, none⟩ (.int .i64 ((rd_T41 x3_1 x17_1).f0))).setCell ⟨gb114, 1, none⟩ (.int .i64 ((rd_T41 x3_1 x17_1).f1))).setCell ⟨gb114, 2, none⟩ (.string ((rd_T41 x3_1 x17_1).f2))).heap[gb114]? = some (.cells #[.int .i64 ((rd_T41 x3_1 x17_1).f0), .int .i64 ((rd_T41 x3_1 x17_1).f1), .string ((rd_T41 x3_1 x17_1).f2)] 41 (0, 0))) := ⟨by (with_reducible repeat (first | refine blk_drewN ?_ _ | refine blk_drew ?_ | refine blk_alloc ?_ _)); refine blk_put (cs := #[.int .i64 ((rd_T41 x3_1 x17_1).f0), .int .i64 ((rd_T41 x3_1 x17_1).f1), .string (⟨#[]⟩ : ByteArray)]) ?_ 2 _ rfl; (with_reducible repeat (first | refine blk_drewN ?_ _ | refine blk_drew ?_ | refine blk_alloc ?_ _)); refine blk_put (cs := #[.int .i64 ((rd_T41 x3_1 x17_1).f0), .int .i64 0, .string (⟨#[]⟩ : ByteArray)]) ?_ 1 _ rfl; (with_reducible repeat (first | refine blk_drewN ?_ _ | refine blk_drew ?_ | refine blk_alloc ?_ _)); refine blk_put (cs := #[.int .i64 0, .int .i64 0, .string (⟨#[]⟩ : ByteArray)]) ?_ 0 _ rfl; (with_reducible repeat (first | refine blk_drewN ?_ _ | refine blk_drew ?_ | refine blk_alloc ?_ _)); exact BK114.out⟩
                          have n2_ : Aside0 (Below w.heap.size w (((w35.setCell ⟨gb114, 0, none⟩ (.int .i64 ((rd_T41 x3_1 x17_1).f0))).setCell ⟨gb114, 1, none⟩ (.int .i64 ((rd_T41 x3_1 x17_1).f1))).setCell ⟨gb114, 2, none⟩ (.string ((rd_T41 x3_1 x17_1).f2)))) := ⟨by repeat (first | (with_reducible first | exact HB.out | apply below_alloc | apply pw_below_drewN | apply below_drew1 | refine below_set ?_ GE114.out) | exact HB.out)⟩
                          (try clear HO_3)
                          (try clear BK114)
                          (try clear HB)
                          generalize (((w35.setCell ⟨gb114, 0, none⟩ (.int .i64 ((rd_T41 x3_1 x17_1).f0))).setCell ⟨gb114, 1, none⟩ (.int .i64 ((rd_T41 x3_1 x17_1).f1))).setCell ⟨gb114, 2, none⟩ (.string ((rd_T41 x3_1 x17_1).f2))) = w37 at n0_ n1_ n2_ ⊢
                          have HO_3 := n0_
                          have BK114 := n1_
                          have HB := n2_
                          clear n0_ n1_ n2_
                          have n0_ := Aside0.mk (Kd.R_drew HO_3.out)
                          have n1_ := Aside0.mk (blk_drew BK114.out)
                          have n2_ := Aside0.mk (below_drew1 HB.out)
                          clear HO_3
                          clear BK114
                          clear HB
                          have HO_3 := n0_
                          have BK114 := n1_
                          have HB := n2_
                          clear n0_ n1_ n2_
                          have p115 : 0 ≤ (x4_1 : Int) := of_decide_eq_true (by first | (with_reducible assumption) | assumption)
                          have q115 : x4_1 < (x3_1.length : Int) := of_decide_eq_true (by first | (with_reducible assumption) | assumption)
                          obtain ⟨ad115, e115, hx115_0, hx115_1, hx115_2⟩ := at_T41 (Kd.R_reads' HO_3.out).2.2 x4_1 p115 q115
                          obtain rfl : ad113 = ad115 := (by injection e115)
                          replace p115 := eq_true p115
                          replace q115 := eq_true q115
                          refine start_ (n := 9) (S := fun w' => w'.cell? ⟨gb114, 0, none⟩ = some (.int .i64 ((rd_T41 x3_1 x17_1).f0)) ∧ w'.cell? ⟨gb114, 1, none⟩ = some (.int .i64 ((rd_T41 x3_1 x17_1).f1)) ∧ w'.cell? ⟨gb114, 2, none⟩ = some (.string ((rd_T41 x3_1 x17_1).f2)) ∧ w'.cell? (ad113.add ((x4_1).toNat * 3)) = some (.int .i64 ((rd_T41 x3_1 x4_1).f0)) ∧ w'.cell? ⟨(ad113.add ((x4_1).toNat * 3)).block, (ad113.add ((x4_1).toNat * 3)).off + 1, none⟩ = some (.int .i64 ((rd_T41 x3_1 x4_1).f1)) ∧ w'.cell? ⟨(ad113.add ((x4_1).toNat * 3)).block, (ad113.add ((x4_1).toNat * 3)).off + 2, none⟩ = some (.string ((rd_T41 x3_1 x4_1).f2))) (ds := []) #[false, false, false, false, false, false, false, false, false] (by kernel_rfl) rfl rfl ⟨(blk_cell BK114.out 0).trans rfl, (blk_cell BK114.out 1).trans rfl, (blk_cell BK114.out 2).trans rfl, hx115_0, hx115_1, hx115_2⟩ (fun hHeld => ?_); refine with_tabW normal_Of.tab11 normal_Of.bits11 (fun HT_ HW_ => ?_)
                          generalize w37.drew = w38 at HO_3 BK114 HB hx115_0 hx115_1 hx115_2 hHeld ⊢
                          refine pure_ (i := 0) (N := some 32) (v := ?_) (a' := ?_) #[true, false, false, false, false, false, false, false, false] rfl rfl (any_of HT_.out (by kernel_rfl)) (fun _ _ _ h => h) (Or.inl ⟨by rfl, ?_⟩) ?_ ?_
                          rotate_left
                          · intro w'
                            go_simp
                            with_reducible rfl
                          rotate_left
                          · simp only [Act.put, List.setIfInBounds_toArray, List.set_cons_zero, List.set_cons_succ, i64_w, i32_w]
                            rfl
                          refine pure_ (i := 2) (N := some 34) (v := ?_) (a' := ?_) #[true, false, true, false, false, false, false, false, false] rfl rfl (any_of HT_.out (by kernel_rfl)) (fun _ _ _ h => h) (Or.inl ⟨by rfl, ?_⟩) ?_ ?_
                          rotate_left
                          · intro w'
                            go_simp
                            with_reducible rfl
                          rotate_left
                          · simp only [Act.put, List.setIfInBounds_toArray, List.set_cons_zero, List.set_cons_succ, i64_w, i32_w]
                            rfl
                          refine pure_ (i := 3) (N := some 35) (v := ?_) (a' := ?_) #[true, false, true, true, false, false, false, false, false] rfl rfl (any_of HT_.out (by kernel_rfl)) (fun _ _ _ h => h) (Or.inl ⟨by rfl, ?_⟩) ?_ ?_
                          rotate_left
                          · intro w'
                            go_simp
                            with_reducible rfl
                          rotate_left
                          · simp only [Act.put, List.setIfInBounds_toArray, List.set_cons_zero, List.set_cons_succ, i64_w, i32_w]
                            rfl
                          refine pure_ (i := 4) (N := some 36) (v := ?_) (a' := ?_) #[true, false, true, true, true, false, false, false, false] rfl rfl (any_of HT_.out (by kernel_rfl)) (fun _ _ _ h => h) (Or.inl ⟨by rfl, ?_⟩) ?_ ?_
                          rotate_left
                          · intro w'
                            go_simp
                            with_reducible rfl
                          rotate_left
                          · simp only [Act.put, List.setIfInBounds_toArray, List.set_cons_zero, List.set_cons_succ, i64_w, i32_w]
                            rfl
                          refine pure_ (i := 5) (N := some 37) (v := ?_) (a' := ?_) #[true, false, true, true, true, true, false, false, false] rfl rfl (any_of HT_.out (by kernel_rfl)) (fun _ _ _ h => h) (Or.inl ⟨by rfl, ?_⟩) ?_ ?_
                          rotate_left
                          · intro w'
                            go_simp
                            with_reducible rfl
                          rotate_left
                          · simp only [Act.put, List.setIfInBounds_toArray, List.set_cons_zero, List.set_cons_succ, i64_w, i32_w]
                            rfl
                          refine take_ (i := 1) (N := some 33) (v := ?_) (a' := ?_) #[true, true, true, true, true, true, false, false, false] rfl rfl (take_ofW HT_.out HW_.out (by kernel_rfl)) (fun _ _ _ h => h) (Or.inl ⟨by rfl, ?_⟩) hHeld ?_ ?_
                          rotate_left
                          · rintro w' ⟨s0, s1, s2, s3, s4, s5⟩
                            go_simp
                            with_reducible rfl
                          rotate_left
                          · simp only [Act.put, List.setIfInBounds_toArray, List.set_cons_zero, List.set_cons_succ, i64_w, i32_w]
                            rfl
                          refine take_ (i := 6) (N := some 38) (v := ?_) (a' := ?_) #[true, true, true, true, true, true, true, false, false] rfl rfl (take_ofW HT_.out HW_.out (by kernel_rfl)) (fun _ _ _ h => h) (Or.inl ⟨by rfl, ?_⟩) hHeld ?_ ?_
                          rotate_left
                          · rintro w' ⟨s0, s1, s2, s3, s4, s5⟩
                            go_simp
                            with_reducible rfl
                          rotate_left
                          · simp only [Act.put, List.setIfInBounds_toArray, List.set_cons_zero, List.set_cons_succ, i64_w, i32_w]
                            rfl
                          refine pure_ (i := 7) (N := some 39) (v := ?_) (a' := ?_) #[true, true, true, true, true, true, true, true, false] rfl rfl (any_of HT_.out (by kernel_rfl)) (fun _ _ _ h => h) (Or.inl ⟨by rfl, ?_⟩) ?_ ?_
                          rotate_left
                          · intro w'
                            go_simp
                            with_reducible rfl
                          rotate_left
                          · simp only [Act.put, List.setIfInBounds_toArray, List.set_cons_zero, List.set_cons_succ, i64_w, i32_w]
                            rfl
                          refine pure_ (i := 8) (N := some 31) (v := ?_) (a' := ?_) #[true, true, true, true, true, true, true, true, true] rfl rfl (any_of HT_.out (by kernel_rfl)) (fun _ _ _ h => h) (Or.inl ⟨by rfl, ?_⟩) ?_ ?_
                          rotate_left
                          · intro w'
                            go_simp
                            with_reducible rfl
                          rotate_left
                          · simp only [Act.put, List.setIfInBounds_toArray, List.set_cons_zero, List.set_cons_succ, i64_w, i32_w]
                            rfl
                          refine done_ (done_of HT_.out (by kernel_rfl)) ?_
                          have hcz39_0 : w38.cell? ⟨gb114, 0, none⟩ = some (.int .i64 ((rd_T41 x3_1 x17_1).f0)) := (blk_cell BK114.out 0).trans rfl
                          have hcz39_1 : w38.cell? ⟨gb114, 1, none⟩ = some (.int .i64 ((rd_T41 x3_1 x17_1).f1)) := (blk_cell BK114.out 1).trans rfl
                          have hcz39_2 : w38.cell? ⟨gb114, 2, none⟩ = some (.string ((rd_T41 x3_1 x17_1).f2)) := (blk_cell BK114.out 2).trans rfl
                          have hfz39_0 := blk_frozen BK114.out 0
                          have hfz39_1 := blk_frozen BK114.out 1
                          have hfz39_2 := blk_frozen BK114.out 2
                          have p34 : 0 ≤ ((ji31) : Int) := of_decide_eq_true (by first | (with_reducible assumption) | assumption)
                          have q34 : ((ji31) : Int) < ((x3_1.length : Int) : Int) := of_decide_eq_true (by first | (with_reducible assumption) | assumption)
                          obtain ⟨go34, co34, eo34, gb34, gl34, cl34, HG34⟩ := Kd.R_form HO_3.out (by omega)
                          (first | cases eo34 | (injection eo34 with ea_ en_ ec_; (first | subst ea_ | (injection ea_ with ea_; subst ea_)); subst ec_; clear en_))
                          have GB34 := Aside0.mk gb34
                          have GG34 := Aside0.mk HG34
                          clear gb34 gl34 HG34
                          (first | simp only [add_plain] at hx113_0 | skip)
                          (first | simp only [add_plain] at hx113_1 | skip)
                          (first | simp only [add_plain] at hx113_2 | skip)
                          (first | simp only [add_plain] at hx115_0 | skip)
                          (first | simp only [add_plain] at hx115_1 | skip)
                          (first | simp only [add_plain] at hx115_2 | skip)
                          obtain ⟨ce34, hcl34, hM34, hcc34, hfr34⟩ := Kd.R_elem HO_3.out z41 ((ji31) : Int) p34 q34
                          obtain rfl := k41_openM hM34
                          have hx34_0 : w38.cell? ⟨go34, ((ji31) : Int).toNat * 3, none⟩ = some (.int .i64 ((rd_T41 x3_1 (ji31)).f0)) := hcc34 0 _ rfl
                          have hx34_1 : w38.cell? ⟨go34, ((ji31) : Int).toNat * 3 + 1, none⟩ = some (.int .i64 ((rd_T41 x3_1 (ji31)).f1)) := hcc34 1 _ rfl
                          have hx34_2 : w38.cell? ⟨go34, ((ji31) : Int).toNat * 3 + 2, none⟩ = some (.string ((rd_T41 x3_1 (ji31)).f2)) := hcc34 2 _ rfl
                          have hf34_0 : w38.frozen? ⟨go34, ((ji31) : Int).toNat * 3, none⟩ = false := hfr34 0
                          have hf34_1 : w38.frozen? ⟨go34, ((ji31) : Int).toNat * 3 + 1, none⟩ = false := hfr34 1
                          have hf34_2 : w38.frozen? ⟨go34, ((ji31) : Int).toNat * 3 + 2, none⟩ = false := hfr34 2
                          clear hcl34 hcc34 hfr34 hM34
                          replace p34 := eq_true p34
                          replace q34 := eq_true q34
                          have HX40 := Aside0.mk (show Kd.R k41 41 w38 w.heap.size (fun k_ => k_ ≠ gb114) (.slice (some ⟨go34, 0, none⟩) x3_1.length co9) x3_1 from (by (with_reducible repeat (first | apply Kd.R_alloc | apply Kd.R_drewN | apply Kd.R_drew)); exact HO_3.out))
                          obtain ⟨ce40, hcl40, hM40, hcc40, hfr40⟩ := Kd.R_elem HX40.out z41 ((ji31) : Int) (of_decide_eq_true (by first | (with_reducible assumption) | assumption)) (by have h_ : ((ji31) : Int) < ((x3_1.length : Int) : Int) := of_decide_eq_true (by first | (with_reducible assumption) | assumption); first | exact h_ | (have e_ := (Kd.R_reads' HO_3.out).1; omega) | simpa using h_)
                          obtain rfl := k41_openM hM40
                          have HP40 := Kd.R_seg HX40.out ((ji31) : Int) (of_decide_eq_true (by first | (with_reducible assumption) | assumption)) (by have h_ : ((ji31) : Int) < ((x3_1.length : Int) : Int) := of_decide_eq_true (by first | (with_reducible assumption) | assumption); first | exact h_ | (have e_ := (Kd.R_reads' HO_3.out).1; omega) | simpa using h_) (seg := [.int .i64 ((rd_T41 x3_1 x17_1).f0), .int .i64 ((rd_T41 x3_1 x17_1).f1), .string ((rd_T41 x3_1 x17_1).f2)]) (j := 0) hcl40 hcc40 (show 3 ≤ 3 from by decide) (x' := (⟨(rd_T41 x3_1 x17_1).f0, (rd_T41 x3_1 x17_1).f1, (rd_T41 x3_1 x17_1).f2⟩ : S41)) (k41_mkM _ _ _ (⟨(rd_T41 x3_1 x17_1).f0, (rd_T41 x3_1 x17_1).f1, (rd_T41 x3_1 x17_1).f2⟩ : S41) ) (fun _ hk => hk)
                          have hx40_0 := hcc40 0 _ rfl
                          (try simp only [show (k41).sz = 3 from rfl, Nat.mul_one, Nat.add_zero] at hx40_0)
                          have hf40_0 := hfr40 0
                          (try simp only [show (k41).sz = 3 from rfl, Nat.mul_one, Nat.add_zero] at hf40_0)
                          have hx40_1 := hcc40 1 _ rfl
                          (try simp only [show (k41).sz = 3 from rfl, Nat.mul_one, Nat.add_zero] at hx40_1)
                          have hf40_1 := hfr40 1
                          (try simp only [show (k41).sz = 3 from rfl, Nat.mul_one, Nat.add_zero] at hf40_1)
                          have hx40_2 := hcc40 2 _ rfl
                          (try simp only [show (k41).sz = 3 from rfl, Nat.mul_one, Nat.add_zero] at hx40_2)
                          have hf40_2 := hfr40 2
                          (try simp only [show (k41).sz = 3 from rfl, Nat.mul_one, Nat.add_zero] at hf40_2)
                          clear hcl40 hcc40 hfr40 hM40
                          try go_wp2_with (first | ((with_reducible refine gate_store (t := 41) (p := 27) rfl ?_); refine store_event (t := 41) (p := 27) (v := ?vo_w41) (w1 := (((w38.setCell ⟨go34, ((ji31) : Int).toNat * 3, none⟩ (.int .i64 ((rd_T41 x3_1 x17_1).f0))).setCell ⟨go34, ((ji31) : Int).toNat * 3 + 1, none⟩ (.int .i64 ((rd_T41 x3_1 x17_1).f1))).setCell ⟨go34, ((ji31) : Int).toNat * 3 + 2, none⟩ (.string ((rd_T41 x3_1 x17_1).f2)))) ?hg ?ho ?hn ?hr ?_; (case ho => rfl); (case hg => rfl); (case hn => rfl); (case hr => first | (go_simp; done) | (go_simp; rfl)); intro w41 hw; have hg : w38.grownBy w41 (some go34) := (by rw [hw]; exact HP40.2); have hp_ : Kd.R k41 41 w41 w.heap.size (fun k_ => k_ ≠ gb114) (.slice (some ⟨go34, 0, none⟩) x3_1.length co9) y120 := (by rw [hw, Ny120.out]; exact HP40.1); clear HP40; have n0_ := Aside0.mk (hp_); have n1_ := Aside0.mk (blk_grown (g := gb114) (o := .cells #[.int .i64 ((rd_T41 x3_1 x17_1).f0), .int .i64 ((rd_T41 x3_1 x17_1).f1), .string ((rd_T41 x3_1 x17_1).f2)] 41 (0, 0)) (by (with_reducible repeat (first | refine blk_drewN ?_ _ | refine blk_drew ?_ | refine blk_alloc ?_ _)); exact BK114.out) hg (Kd.R_away HO_3.out (fun _ hk => hk))); have n2_ := Aside0.mk ((by rw [hw]; exact below_set (below_set (below_set (HB.out) GB34.out) GB34.out) GB34.out : Below w.heap.size w w41)); clear HO_3; clear BK114; clear HB; have HO_3 := n0_; have BK114 := n1_; have HB := n2_; clear n0_ n1_ n2_; clear hg hw hp_))
                          (try simp only [← hl3_1])
                          go_roundg k1
                          case measure => have := HK1.out; omega
                          case rel => exact ⟨(y120), (ji31), (wrap64 (x17_1 + 1)), (by first | rfl | (simp; done) | (simp only [← hji31] <;> (first | rfl | simp)) | (simp [*]; done)), (by first | rfl | (simp; done) | (simp [*]; done)), H', ⟨by have := HK1.out; omega⟩, ⟨by (try simp only [hl3_1]); (with_reducible repeat (first | apply Kd.R_alloc | apply Kd.R_drewN | apply Kd.R_drew)); exact Kd.R_mono HO_3.out (fun _ hk => trivial)⟩, ⟨by repeat (first | (with_reducible first | exact HB.out | apply below_alloc | apply pw_below_drewN | apply below_drew1 | refine below_set ?_ GE114.out) | exact HB.out)⟩⟩
                        · rw [if_neg c33] at H
                          exact absurd H (by simp)
                      · rw [if_neg c32] at H
                        exact absurd H (by simp)
                  · rw [if_neg c17] at H
                    exact absurd H (by simp)
                · rw [if_neg c16] at H
                  exact absurd H (by simp)
            · rw [if_neg c12] at H
              exact absurd H (by simp)
          · rw [if_neg c11] at H
            exact absurd H (by simp)
        · rw [if_neg c10] at H
          have c10b0 : decide (x17_1 < (t107.length : Int)) = false := decide_eq_false c10
          (try simp only [hl3_1] at c10b0)
          clear c10
          obtain ⟨ji42, hji42⟩ : ∃ j_ : Int, (mn (wrap64 (x4_1 + 1)) (x3_1.length : Int)) = j_ := ⟨_, rfl⟩
          replace H : (if 0 ≤ (ji42) then (if (ji42) ≤ (x3_1.length : Int) then (some (x3_1.take ((ji42) : Int).toNat)) else (none)) else (none)) = some r := by first | (rw [hji42] at H; exact H) | (simp only [hji42] at H ⊢; exact H)
          have hji42_ : (if (x3_1.length : Int) < (wrap64 (x4_1 + 1)) then (x3_1.length : Int) else (wrap64 (x4_1 + 1))) = ji42 := hji42
          by_cases c43 : 0 ≤ (ji42)
          · rw [if_pos c43] at H
            have c43b0 := eq_true c43
            have c43b1 : decide (0 ≤ (ji42)) = true := decide_eq_true c43
            clear c43
            by_cases c44 : (ji42) ≤ (x3_1.length : Int)
            · rw [if_pos c44] at H
              have c44b0 := eq_true c44
              have c44b1 : decide ((ji42) ≤ (x3_1.length : Int)) = true := decide_eq_true c44
              clear c44
              obtain ⟨y110, hy110⟩ : ∃ y_ : List (S41), y_ = (x3_1.take ((ji42) : Int).toNat) := ⟨_, rfl⟩
              replace H : (some y110) = some r := by first | (rw [hy110]; with_reducible exact H) | (have H2_ := (Option.bind_some _ _).symm.trans H; rw [hy110]; with_reducible exact H2_) | (have H2_ := (Option.bind_some _ _).symm.trans H; with_reducible exact H2_) | with_reducible exact H | (rw [hy110]; exact H) | exact H
              have Ny110 := Aside0.mk hy110
              clear hy110
              obtain rfl := Option.some.inj H
              have q45 : ((ji42) : Int) ≤ ((x3_1.length : Int) : Int) := of_decide_eq_true (by first | (with_reducible assumption) | assumption)
              obtain ⟨i045, hi045, _, hsz45, _⟩ := info_parts info41
              have hcut45 := cut_to (P := Tryd.prog) 24 41 .i64 Tryd.underlying24 hi045 Ao9 x3_1.length co9 (ji42) (of_decide_eq_true (by first | (with_reducible assumption) | assumption)) q45 (Kd.R_reads' HO_3.out).2.1
              have hr45 := Kd.R_take (m := ((ji42) : Int).toNat) HO_3.out (by omega)
              have hy45 : y110.length = ((ji42) : Int).toNat := (by rw [Ny110.out, List.length_take]; omega)
              rw [← Ny110.out] at hr45
              rw [← hy45] at hr45 hcut45
              clear hy45 hi045 hsz45 HO_3
              have HO112 := Aside0.mk hr45
              clear hr45
              replace q45 := eq_true q45
              go_wp2
              go_ret
              exact ⟨_, by first | rfl | (simp [errW_none, errW_some] <;> rfl) | (simp only [← hji42]; first | rfl | (simp [errW_none, errW_some] <;> rfl)) | (simp [*, errW_none, errW_some] <;> rfl), by (with_reducible repeat (first | apply Kd.R_alloc | apply Kd.R_drewN | apply Kd.R_drew)); exact HO112.out, by repeat (first | (with_reducible first | exact HB.out | apply below_alloc | apply pw_below_drewN | apply below_drew1) | exact HB.out)⟩
            · rw [if_neg c44] at H
              exact absurd H (by simp)
          · rw [if_neg c43] at H
            exact absurd H (by simp)
  · rw [if_neg c2] at H
    exact absurd H (by simp)
end Go.Proofs.YthhgobiaecehbaaDoor.F
end
section
namespace Go.Proofs.YthhgobiaecehbaaDoor.F
open Go.RowKit Go.Proofs.YthhgobiaecehbaaDoorW.PrintWords Go.Proofs.YthhgobiaecehbaaDoorW.PrintLast Go.Proofs.YthhgobiaecehbaaDoorW.PrintMore
set_option linter.unusedVariables false
set_option linter.unusedSimpArgs false
section
variable {P : Program} {ops : Array Oper} {rest : List Oper} {o : Oper} {a : Act} {Q : Exit → Act → World → Prop} {W : World}
def ConvCalls (P : Program) (src dst : TypeId) (v : Value) (w : World) (post : Ending → World → Prop) : Prop := ∃ u w', (convert src dst v).run P w = .ok u w' ∧ post (.returned u) w'
theorem ConvCalls.mono {src dst : TypeId} {v : Value} {w : World} {p q : Ending → World → Prop} (h : ConvCalls P src dst v w p) (hpq : ∀ e w', p e w' → q e w') : ConvCalls P src dst v w q := by
  obtain ⟨u, w', h1, h2⟩ := h
  exact ⟨u, w', h1, hpq _ _ h2⟩
theorem gate_convert {s t : TypeId} {x : Operand} (_ho : o.op = .convert s t x) (h : wpList P ops Q (o :: rest) a W) : wpList P ops Q (o :: rest) a W := h
theorem goesC_ {oi : Oper} {w : World} (N : Option Tmp) (hd : oi.dst = N) (hg : oi.guard = none) {src dst : TypeId} {x : Operand} (v : Value) (hop : oi.op = .convert src dst x) (hx : a.eval x = v)
    (h : ConvCalls P src dst v w fun e w' => ∃ u, e = .returned u ∧ wpList P ops Q rest (a.put N u) w') : wpList P ops Q (oi :: rest) a w := by
  obtain ⟨u, w', hr, u', he, hk⟩ := h
  injection he with he
  subst he
  refine wpList_plain hg fun K hK => ?_
  unfold Oper.wp execOp
  simp only [hop, hx, Sem.run_bind, Sem.run_pure, hr, Result.andThen_ok]
  subst hd
  exact hK _ _ hk
end
def runesL (s : ByteArray) : Nat → Nat → List Int
  | 0, _ => []
  | b + 1, i => if i < s.size then ((Utf8.decode s i).1 : Int) :: runesL s b (i + (Utf8.decode s i).2) else []
theorem runesFrom_is (s : ByteArray) : ∀ (b i : Nat) (acc : Array Value), (Conv.runesFrom s b i acc).toList = acc.toList ++ (runesL s b i).map (Value.int .i32)
  | 0, i, acc => by simp [Conv.runesFrom, runesL]
  | b + 1, i, acc => by
    unfold Conv.runesFrom runesL
    by_cases h : i < s.size
    · rw [if_pos h, if_pos h]
      simp only
      rw [runesFrom_is s b]
      simp
    · rw [if_neg h, if_neg h]
      simp
theorem runesL_length (s : ByteArray) : ∀ (b i : Nat), (runesL s b i).length ≤ b
  | 0, i => Nat.le_refl _
  | b + 1, i => by
    unfold runesL
    split
    · simp
      exact runesL_length s b _
    · simp
def str_runes.f (a0 : ByteArray) : Option (List Int) := if a0.size ≤ 17592186044416 then some (runesL a0 a0.size 0) else none
def runes_str.f (l0 : List Int) : Option ByteArray := some (runesBytes l0)
theorem str_runes.calls (a0 : ByteArray) (r : List Int) (w : World) (h : str_runes.f a0 = some r) :
    ConvCalls Tryd.prog 9 69 (.string a0) w fun e w' => ∃ v0_ : Value, e = .returned (v0_) ∧ Kd.R (Kd.int .i32) 21 w' w.heap.size (fun _ => True) v0_ r ∧ Below w.heap.size w w' := by
  unfold str_runes.f at h
  split at h
  · next hs =>
    obtain rfl := Option.some.inj h
    have hl := runesL_length a0 a0.size 0
    have hz : (Conv.runesFrom a0 a0.size 0 #[]).toList = (runesL a0 a0.size 0).map (Value.int .i32) := by rw [runesFrom_is]; simp
    have hsz : (Conv.runesFrom a0 a0.size 0 #[]).size = (runesL a0 a0.size 0).length := by rw [← Array.length_toList, hz, List.length_map]
    have hrun := run_runes_of_string (P := Tryd.prog) w 9 69 21 a0 Tryd.underlying9 Tryd.underlying69 Tryd.underlying21 (by omega)
    refine ⟨_, _, hrun, _, rfl, ?_, ?_⟩
    · refine Kd.R_of_own (enc := Value.int .i32) (h1 := fun _ => rfl) ?_ (fun _ _ => trivial)
      have hge := grownCap_ge w (Conv.runesFrom a0 a0.size 0 #[]).size 0 21
      have hle := grownCap_le_maxLen w (Conv.runesFrom a0 a0.size 0 #[]).size 0 21 (by unfold maxLen; omega)
      generalize grownCap w (Conv.runesFrom a0 a0.size 0 #[]).size 0 21 = cap at *
      generalize Conv.runesFrom a0 a0.size 0 #[] = C at *
      have h1 : (C ++ Array.replicate (cap - C.size) (Value.int .i32 0)).size = cap * 1 := by
        rw [Array.size_append, Array.size_replicate]
        omega
      have h2 : (C ++ Array.replicate (cap - C.size) (Value.int .i32 0)).toList.take ((runesL a0 a0.size 0).length * 1) = encs (Value.int .i32) (runesL a0 a0.size 0) := by
        rw [Array.toList_append, hz, Nat.mul_one, List.take_left' (by simp)]
        rfl
      exact ⟨by simp [encs], .inr ⟨w.heap.size, cap, _, by rw [hsz], Nat.le_refl _, heap_alloc_new w.drew _, by omega, hle, h1, h2⟩⟩
    · exact below_alloc (below_drew1 (Below.refl _ _)) _
  · cases h
end Go.Proofs.YthhgobiaecehbaaDoor.F
end
section
namespace Go.Proofs.YthhgobiaecehbaaDoor.F
open Go.RowKit Go.Proofs.YthhgobiaecehbaaDoorW.PrintWords Go.Proofs.YthhgobiaecehbaaDoorW.PrintLast Go.Proofs.YthhgobiaecehbaaDoorW.PrintMore
set_option linter.unusedVariables false
set_option linter.unusedSimpArgs false
def kindR : List S41 → Int
  | [] => 0
  | s :: _ => s.f0
def loadR : List S41 → Option (List Int)
  | [] => some []
  | s :: _ => str_runes.f s.f2
def sizeR : List S41 → List Int → Int
  | [], _ => 0
  | s :: _, t => wrap64 (s.f1 + (t.length : Int))
def RowAt (W : World) (A : Option Addr) (gl : Nat) (l : List S41) : Prop :=
  0 < l.length → ∃ (off : Nat) (cur : Array Value), A = some ⟨gl, off, none⟩ ∧ W.heap[gl]? = some (.cells cur 41 (0, 0)) ∧
    ∀ (j : Nat) (s : S41), l[j]? = some s → cur[off + 3 * j]? = some (.int .i64 s.f0) ∧ cur[off + 3 * j + 1]? = some (.int .i64 s.f1) ∧ cur[off + 3 * j + 2]? = some (.string s.f2)
def TxtAt (W : World) (B : Option Addr) (gt : Nat) (t : List Int) : Prop :=
  0 < t.length → ∃ (off : Nat) (cur : Array Value), B = some ⟨gt, off, none⟩ ∧ W.heap[gt]? = some (.cells cur 21 (0, 0)) ∧ ∀ (j : Nat) (r : Int), t[j]? = some r → cur[off + j]? = some (.int .i32 r)
structure Rd (W : World) (n₀ g gl gt : Nat) (A : Option Addr) (c : Nat) (B : Option Addr) (cB : Nat) (l : List S41) (t : List Int) : Prop where
  blk : W.heap[g]? = some (.cells #[.slice A l.length c, .slice B t.length cB] 96 (0, 0))
  lc : l.length ≤ c
  tc : t.length ≤ cB
  lm : c ≤ 9223372036854775807
  tm : cB ≤ 9223372036854775807
  row : RowAt W A gl l
  txt : TxtAt W B gt t
  hg : n₀ ≤ g
  hl : 0 < l.length → n₀ ≤ gl
theorem Rd.keep {W W' : World} {n₀ g gl gt c cB : Nat} {A B : Option Addr} {l : List S41} {t : List Int} (h : Rd W n₀ g gl gt A c B cB l t) (h0 : W'.heap[g]? = W.heap[g]?) (h1 : 0 < l.length → W'.heap[gl]? = W.heap[gl]?) (h2 : 0 < t.length → W'.heap[gt]? = W.heap[gt]?) : Rd W' n₀ g gl gt A c B cB l t :=
  ⟨h0.trans h.blk, h.lc, h.tc, h.lm, h.tm, fun hp => by obtain ⟨o, cur, e1, e2, e3⟩ := h.row hp; exact ⟨o, cur, e1, (h1 hp).trans e2, e3⟩, fun hp => by obtain ⟨o, cur, e1, e2, e3⟩ := h.txt hp; exact ⟨o, cur, e1, (h2 hp).trans e2, e3⟩, h.hg, h.hl⟩
theorem Rd.lt {W : World} {n₀ g gl gt c cB : Nat} {A B : Option Addr} {l : List S41} {t : List Int} (h : Rd W n₀ g gl gt A c B cB l t) : g < W.heap.size ∧ (0 < l.length → gl < W.heap.size) ∧ (0 < t.length → gt < W.heap.size) :=
  ⟨blk_lt h.blk, fun hp => by obtain ⟨_, _, _, e, _⟩ := h.row hp; exact blk_lt e, fun hp => by obtain ⟨_, _, _, e, _⟩ := h.txt hp; exact blk_lt e⟩
theorem Rd.below {W W' : World} {n₀ g gl gt c cB : Nat} {A B : Option Addr} {l : List S41} {t : List Int} (h : Rd W n₀ g gl gt A c B cB l t) (hb : Below W.heap.size W W') : Rd W' n₀ g gl gt A c B cB l t :=
  h.keep (hb.block _ h.lt.1) (fun hp => hb.block _ (h.lt.2.1 hp)) (fun hp => hb.block _ (h.lt.2.2 hp))
theorem Rd.head {W : World} {n₀ g gl gt c cB : Nat} {A B : Option Addr} {s : S41} {r : List S41} {t : List Int} (h : Rd W n₀ g gl gt A c B cB (s :: r) t) :
    ∃ off : Nat, A = some ⟨gl, off, none⟩ ∧ W.cell? ⟨gl, off, none⟩ = some (.int .i64 s.f0) ∧ W.cell? ⟨gl, off + 1, none⟩ = some (.int .i64 s.f1) ∧ W.cell? ⟨gl, off + 2, none⟩ = some (.string s.f2) ∧ W.frozen? ⟨gl, off + 1, none⟩ = false := by
  obtain ⟨off, cur, e1, e2, e3⟩ := h.row (by simp)
  obtain ⟨h0, h1, h2⟩ := e3 0 s rfl
  refine ⟨off, e1, ?_, ?_, ?_, blk_frozen e2 _⟩
  · rw [blk_cell e2 off]; exact h0
  · rw [blk_cell e2 (off + 1)]; exact h1
  · rw [blk_cell e2 (off + 2)]; exact h2
set_option maxRecDepth 100000 in
set_option maxHeartbeats 2000000 in
theorem reader_kind.calls (n₀ g gl gt c cB : Nat) (A B : Option Addr) (l : List S41) (t : List Int) (w : World) (h : Rd w n₀ g gl gt A c B cB l t) :
    Calls Tryd.prog 69 #[.pointer (some ⟨g, 0, none⟩)] w fun e w' => e = .returned (.int .i64 (kindR l)) ∧ w = w' := by
  have c0 := (blk_cell h.blk 0).trans (show _ = some (Value.slice A l.length c) from rfl)
  have HM : Aside0 (c ≤ 9223372036854775807) := ⟨h.lm⟩
  have HC : Aside0 (l.length ≤ c) := ⟨h.lc⟩
  cases l with
  | nil =>
    clear h
    go_enter Tryd.func69, Tryd.ntmps69
    go_wp2
    go_ret
    exact ⟨rfl, rfl⟩
  | cons s r =>
    obtain ⟨off, rfl, h0, h1, h2, hf⟩ := h.head
    simp only [List.length_cons] at c0
    obtain ⟨n, hn⟩ : ∃ n, r.length = n := ⟨_, rfl⟩
    rw [hn] at c0
    have d0 : (((n + 1 : Nat) : Int) == 0) = false := by simp; omega
    clear h hn HM HC
    go_enter Tryd.func69, Tryd.ntmps69
    go_wp2
    go_ret
    exact ⟨rfl, rfl⟩
set_option maxRecDepth 100000 in
set_option maxHeartbeats 2000000 in
theorem reader_size.calls (n₀ g gl gt c cB : Nat) (A B : Option Addr) (l : List S41) (t : List Int) (w : World) (h : Rd w n₀ g gl gt A c B cB l t) (hp : 0 < l.length) :
    Calls Tryd.prog 71 #[.pointer (some ⟨g, 0, none⟩)] w fun e w' => e = .returned (.int .i64 (sizeR l t)) ∧ w' = w.drew := by
  have c0 := (blk_cell h.blk 0).trans (show _ = some (Value.slice A l.length c) from rfl)
  have c1 := (blk_cell h.blk 1).trans (show _ = some (Value.slice B t.length cB) from rfl)
  have HM : Aside0 (c ≤ 9223372036854775807) := ⟨h.lm⟩
  have HC : Aside0 (l.length ≤ c) := ⟨h.lc⟩
  cases l with
  | nil => simp at hp
  | cons s r =>
    obtain ⟨off, rfl, h0, h1, h2, hf⟩ := h.head
    simp only [List.length_cons] at c0
    obtain ⟨n, hn⟩ : ∃ n, r.length = n := ⟨_, rfl⟩
    rw [hn] at c0
    clear h hn hp HM HC
    go_enter Tryd.func71, Tryd.ntmps71
    go_wp2
    go_region
    go_wp2
    go_ret
    exact ⟨rfl, rfl⟩
theorem txt_own {W : World} {base : Nat} {ok : Nat → Prop} {v : Value} {t : List Int} (h : Kd.R (Kd.int .i32) 21 W base ok v t) : ∃ (gt cB : Nat) (B : Option Addr), v = .slice B t.length cB ∧ t.length ≤ cB ∧ cB ≤ 9223372036854775807 ∧ TxtAt W B gt t ∧ (0 < t.length → base ≤ gt) := by
  have ho := Kd.own_of_R h
  rcases ho.2 with ⟨hv, h0⟩ | ⟨g, cap, cur, hv, hb, hh, hnc, hcm, hcs, htake⟩
  · have ht : t.length = 0 := h0
    exact ⟨0, 0, none, by rw [hv, ht], by omega, by omega, fun hp => by omega, fun hp => by omega⟩
  · refine ⟨g, cap, _, hv, hnc, hcm, fun _ => ⟨0, cur, rfl, hh, fun j r hr => ?_⟩, fun _ => hb⟩
    have := congrArg (·[j]?) htake
    simp only [List.getElem?_take, encs, List.getElem?_map, hr, Option.map_some, Array.getElem?_toList] at this
    have hj := (List.getElem?_eq_some_iff.1 hr).1
    rw [if_pos (by omega)] at this
    rw [Nat.zero_add]
    exact this
set_option maxRecDepth 100000 in
set_option maxHeartbeats 2000000 in
theorem reader_load.calls (n₀ g gl c : Nat) (A : Option Addr) (V : Value) (l : List S41) (t2 : List Int) (w0 w : World) (hn : n₀ = w0.heap.size) (hB : Below n₀ w0 w)
    (hblk : w.heap[g]? = some (.cells #[.slice A l.length c, V] 96 (0, 0))) (lc : l.length ≤ c) (lm : c ≤ 9223372036854775807) (row : RowAt w A gl l) (hg : n₀ ≤ g) (hl : 0 < l.length → n₀ ≤ gl) (hL : loadR l = some t2) :
    Calls Tryd.prog 84 #[.pointer (some ⟨g, 0, none⟩)] w fun e w' => e = .returned (.tuple #[]) ∧ ∃ (gt cB : Nat) (B : Option Addr), Rd w' n₀ g gl gt A c B cB l t2 ∧ Below n₀ w0 w' ∧ (∀ k, k < w.heap.size → k ≠ g → w'.heap[k]? = w.heap[k]?) ∧ (0 < t2.length → w.heap.size ≤ gt) := by
  subst hn
  have BK := Aside0.mk hblk
  have c0 := (blk_cell hblk 0).trans (show _ = some (Value.slice A l.length c) from rfl)
  have c1 := (blk_cell hblk 1).trans (show _ = some V from rfl)
  have f1 := blk_frozen hblk 1
  have bk1 : (w.setCell ⟨g, 1, none⟩ (.slice none 0 0)).heap[g]? = some (.cells #[.slice A l.length c, .slice none 0 0] 96 (0, 0)) := blk_put hblk 1 _ rfl
  have c2 := (blk_cell bk1 0).trans (show _ = some (Value.slice A l.length c) from rfl)
  have BK1 := Aside0.mk bk1
  have HB1 := Aside0.mk (hB.setCell (p := ⟨g, 1, none⟩) hg (.slice none 0 0))
  have HG := Aside0.mk hg
  have HH := Aside0.mk hl
  have LC := Aside0.mk lc
  have LM := Aside0.mk lm
  cases l with
  | nil =>
    obtain rfl : [] = t2 := by simpa [loadR] using hL
    simp only [List.length_nil] at c0 c2 BK1
    clear hblk bk1 hB hg hl lc lm row hL BK
    go_enter Tryd.func84, Tryd.ntmps84
    go_wp2
    go_end0
    exact ⟨rfl, 0, 0, none, ⟨BK1.out, Nat.zero_le _, Nat.le_refl _, LM.out, by omega, fun h => by simp at h, fun h => by simp at h, HG.out, HH.out⟩, HB1.out, fun k hk hkg => Below.heap_setCell w ⟨g, 1, none⟩ _ k hkg, fun h => by simp at h⟩
  | cons s r =>
    have rowA := Aside0.mk row
    have row1 : RowAt (w.setCell ⟨g, 1, none⟩ (.slice none 0 0)) A gl (s :: r) := fun hp => by
      obtain ⟨o, cur, e1, e2, e3⟩ := row hp
      exact ⟨o, cur, e1, (Below.heap_setCell w ⟨g, 1, none⟩ _ gl (blk_ne e2 hblk (by decide))).trans e2, e3⟩
    have RR : Aside0 (RowAt (w.setCell ⟨g, 1, none⟩ (.slice none 0 0)) A gl (s :: r)) := ⟨row1⟩
    obtain ⟨off, cur, rfl, e2, e3⟩ := row1 (by simp)
    have h2 := (blk_cell e2 (off + 2)).trans (e3 0 s rfl).2.2
    have HL : Aside0 (str_runes.f s.f2 = some t2) := ⟨hL⟩
    have c3 := (blk_cell bk1 1).trans (show _ = some (Value.slice none 0 0) from rfl)
    simp only [List.length_cons] at c0 c2
    obtain ⟨n, hn⟩ : ∃ n, r.length = n := ⟨_, rfl⟩
    have HNN := Aside0.mk hn
    rw [hn] at c0 c2
    have d0 : decide ((0 : Int) < ((n + 1 : Nat) : Int)) = true := decide_eq_true (by omega)
    clear hblk bk1 hB hg hl lc lm row hL BK hn e2 e3
    go_enter Tryd.func84, Tryd.ntmps84
    go_wp2_with ((with_reducible refine gate_convert (s := 9) (t := 69) rfl ?_); refine goesC_ (some 19) rfl rfl (.string s.f2) rfl rfl ?_; (with_reducible refine (str_runes.calls s.f2 t2 _ HL.out).mono ?_); rintro e w2 ⟨v, rfl, ho, hb⟩; refine ⟨_, rfl, ?_⟩; obtain ⟨gt, cB, B, rfl, tc, tm, htx, hgt⟩ := txt_own ho; have HT := Aside0.mk htx; have HGT := Aside0.mk hgt; have TC := Aside0.mk tc; have TM := Aside0.mk tm; have HB2 := Aside0.mk hb; have c4 := (blk_cell (blk_below BK1.out hb) 1).trans (show _ = some (Value.slice none 0 0) from rfl); have f4 := blk_frozen (blk_below BK1.out hb) 1; clear ho hb htx hgt tc tm)
    go_end0
    have hgr : g < w.heap.size := by have := blk_lt BK1.out; simpa [World.setCell] using this
    have hsz : (w.setCell ⟨g, 1, none⟩ (.slice none 0 0)).heap.size = w.heap.size := by simp [World.setCell]
    refine ⟨rfl, gt, cB, B, ⟨blk_put (blk_below BK1.out HB2.out) 1 _ rfl, LC.out, TC.out, LM.out, TM.out, fun hp => ?_, fun hp => ?_, HG.out, HH.out⟩, (below_step HB1.out HB2.out).setCell (p := ⟨g, 1, none⟩) HG.out _, fun k hk hkg => ?_, fun hp => by have := HGT.out hp; omega⟩
    · obtain ⟨o, cur, e1, e2, e3⟩ := RR.out hp
      exact ⟨o, cur, e1, (Below.heap_setCell w2 ⟨g, 1, none⟩ _ gl (blk_ne e2 BK1.out (by decide))).trans (blk_below e2 HB2.out), e3⟩
    · obtain ⟨o, cur, e1, e2, e3⟩ := HT.out hp
      exact ⟨o, cur, e1, (Below.heap_setCell w2 ⟨g, 1, none⟩ _ gt (by have := HGT.out hp; show gt ≠ g; omega)).trans e2, e3⟩
    · exact (Below.heap_setCell w2 ⟨g, 1, none⟩ _ k hkg).trans ((HB2.out.block k (by omega)).trans (Below.heap_setCell w ⟨g, 1, none⟩ _ k hkg))
def takeR : List S41 → List Int → Int → Option (S41 × List S41 × List Int)
  | [], _, _ => none
  | s :: r, t, n =>
    if s.f0 = 2 then
      (if 0 ≤ n ∧ n ≤ (t.length : Int) then
        (if sizeR (s :: r) (t.drop n.toNat) = 0 then (loadR r).bind fun t2 => some (⟨2, 0, runesBytes (t.take n.toNat)⟩, r, t2) else some (⟨2, 0, runesBytes (t.take n.toNat)⟩, s :: r, t.drop n.toNat))
      else none)
    else (if sizeR (⟨s.f0, wrap64 (s.f1 - n), s.f2⟩ :: r) t = 0 then (loadR r).bind fun t2 => some (⟨s.f0, n, ⟨#[]⟩⟩, r, t2) else some (⟨s.f0, n, ⟨#[]⟩⟩, ⟨s.f0, wrap64 (s.f1 - n), s.f2⟩ :: r, t))
structure TakeP (w0 w : World) (n₀ g gl gt : Nat) (l' : List S41) (t' : List Int) (w' : World) : Prop where
  b : Below n₀ w0 w'
  z : w.heap.size ≤ w'.heap.size
  o : ∀ k, k < w.heap.size → k ≠ g → k ≠ gl → w'.heap[k]? = w.heap[k]?
  r : ∃ (gt' c cB : Nat) (A B : Option Addr), Rd w' n₀ g gl gt' A c B cB l' t' ∧ (0 < t'.length → gt' = gt ∨ w.heap.size ≤ gt')
theorem row_set1 {W : World} {gl off : Nat} {cur : Array Value} {s : S41} {r : List S41} (z : Int) (hb : W.heap[gl]? = some (.cells cur 41 (0, 0)))
    (h : ∀ (j : Nat) (x : S41), (s :: r)[j]? = some x → cur[off + 3 * j]? = some (.int .i64 x.f0) ∧ cur[off + 3 * j + 1]? = some (.int .i64 x.f1) ∧ cur[off + 3 * j + 2]? = some (.string x.f2)) :
    ∃ cur', (W.setCell ⟨gl, off + 1, none⟩ (.int .i64 z)).heap[gl]? = some (.cells cur' 41 (0, 0)) ∧
      ∀ (j : Nat) (x : S41), ((⟨s.f0, z, s.f2⟩ : S41) :: r)[j]? = some x → cur'[off + 3 * j]? = some (.int .i64 x.f0) ∧ cur'[off + 3 * j + 1]? = some (.int .i64 x.f1) ∧ cur'[off + 3 * j + 2]? = some (.string x.f2) := by
  refine ⟨cur.setIfInBounds (off + 1) (.int .i64 z), blk_put hb (off + 1) _ rfl, fun j x hx => ?_⟩
  have hlt : off + 1 < cur.size := by
    obtain ⟨_, h1, _⟩ := h 0 s rfl
    exact (Array.getElem?_eq_some_iff.1 h1).1
  cases j with
  | zero =>
    obtain rfl : (⟨s.f0, z, s.f2⟩ : S41) = x := by simpa using hx
    obtain ⟨h0, h1, h2⟩ := h 0 s rfl
    refine ⟨?_, ?_, ?_⟩
    · rw [Array.getElem?_setIfInBounds_ne (by omega)]; exact h0
    · simp [hlt]
    · rw [Array.getElem?_setIfInBounds_ne (by omega)]; exact h2
  | succ j =>
    obtain ⟨h0, h1, h2⟩ := h (j + 1) x (by simpa using hx)
    rw [Array.getElem?_setIfInBounds_ne (by omega), Array.getElem?_setIfInBounds_ne (by omega), Array.getElem?_setIfInBounds_ne (by omega)]
    exact ⟨h0, h1, h2⟩
theorem row_tail {W : World} {A : Option Addr} {gl c : Nat} {s : S41} {r : List S41} (h : RowAt W A gl (s :: r)) (hc : (s :: r).length ≤ c) : RowAt W (if c = 1 then A else A.map (·.add (1 * 3))) gl r := by
  intro hp
  obtain ⟨off, cur, e1, e2, e3⟩ := h (by simp)
  subst e1
  have hc1 : c ≠ 1 := by simp at hc; omega
  refine ⟨off + 3, cur, ?_, e2, fun j x hx => ?_⟩
  · rw [if_neg hc1]
    simp [Addr.add]
  · have := e3 (j + 1) x (by simpa using hx)
    rw [show off + 3 * (j + 1) = off + 3 + 3 * j by omega] at this
    exact this
theorem txt_drop {W : World} {B : Option Addr} {gt cB m : Nat} {t : List Int} (h : TxtAt W B gt t) (hc : t.length ≤ cB) (hm : m ≤ t.length) : TxtAt W (if cB = m then B else B.map (·.add (m * 1))) gt (t.drop m) := by
  intro hp
  rw [List.length_drop] at hp
  obtain ⟨off, cur, e1, e2, e3⟩ := h (by omega)
  subst e1
  refine ⟨off + m, cur, ?_, e2, fun j r hr => ?_⟩
  · rw [if_neg (by omega)]
    simp [Addr.add]
  · rw [List.getElem?_drop] at hr
    have := e3 (m + j) r hr
    rw [show off + m + j = off + (m + j) by omega]
    exact this
theorem txt_reads {W : World} {B : Option Addr} {gt cB m : Nat} {t : List Int} (h : TxtAt W B gt t) (hc : t.length ≤ cB) (hB : cB ≤ 9223372036854775807) (hm : m ≤ t.length) : Kd.C (Kd.int .i32) W B (t.take m).length (t.take m) := by
  have hl : (t.take m).length = m := by rw [List.length_take]; omega
  refine Kd.C_of_reads (enc := Value.int .i32) (d := (0 : Int)) (h1 := fun _ => rfl) ⟨rfl, by omega, fun hp => ?_⟩
  obtain ⟨off, cur, e1, e2, e3⟩ := h (by omega)
  refine ⟨_, e1, fun j hj => ?_⟩
  have hj2 : j < t.length := by omega
  have := e3 j t[j] (List.getElem?_eq_getElem hj2)
  rw [show (⟨gt, off, none⟩ : Addr).add j = ⟨gt, off + j, none⟩ by simp [Addr.add], blk_cell e2, this, List.getD_eq_getElem?_getD, List.getElem?_take, if_pos (by omega), List.getElem?_eq_getElem hj2]
  rfl
theorem conv_take {W : World} {B : Option Addr} {gt cB m : Nat} {t : List Int} (h : TxtAt W B gt t) (hc : t.length ≤ cB) (hB : cB ≤ 9223372036854775807) (hm : m ≤ t.length) :
    (convert 69 9 (.slice B m cB)).run Tryd.prog W = .ok (.string (runesBytes (t.take m))) W := by
  have hl : (t.take m).length = m := by rw [List.length_take]; omega
  have hr := txt_reads h hc hB hm
  cases B with
  | none =>
    have h0 : m = 0 := by
      rcases Nat.eq_zero_or_pos m with h1 | h1
      · exact h1
      · obtain ⟨_, _, e, _⟩ := h (by omega); cases e
    subst h0
    rw [show t.take 0 = [] from rfl]
    exact run_convert_runes_nil (P := Tryd.prog) W 69 9 21 _ _ Tryd.underlying69 Tryd.underlying21 Tryd.underlying9
  | some ad =>
    have hcc : ∀ j, j < (t.take m).length → W.cell? (ad.add j) = some (.int .i32 ((t.take m).getD j 0)) := by
      intro j hj
      obtain ⟨ad', e, hx⟩ := Kd.at_int hr (j : Int) (by omega) (by omega)
      cases e
      simpa [rd] using hx
    have hrun := run_convert_runes (P := Tryd.prog) W 69 9 21 ad (t.take m).length cB (t.take m) (Nat.le_refl _) Tryd.underlying69 Tryd.underlying21 Tryd.underlying9 hcc
    rw [List.take_length] at hrun
    rw [hl] at hrun
    exact hrun
end Go.Proofs.YthhgobiaecehbaaDoor.F
end
section
namespace Go.Proofs.YthhgobiaecehbaaDoor.F
open Go.RowKit Go.Proofs.YthhgobiaecehbaaDoorW.PrintWords Go.Proofs.YthhgobiaecehbaaDoorW.PrintLast Go.Proofs.YthhgobiaecehbaaDoorW.PrintMore
set_option linter.unusedVariables false
set_option linter.unusedSimpArgs false
def newR (k : Nat) (l : List S41) : Option (List S41 × List Int) := (normal_Of.f k l).bind fun x => (loadR x).bind fun t => some (x, t)
theorem newR.mono (l : List S41) (k : Nat) : LeO (newR k l) (newR (k + 1) l) := by
  unfold newR
  exact LeO.bind (normal_Of.mono _ _) (fun _ => LeO.refl _)
theorem row_own {W : World} {base : Nat} {ok : Nat → Prop} {v : Value} {l : List S41} (h : Kd.R k41 41 W base ok v l) : ∃ (gl c : Nat) (A : Option Addr), v = .slice A l.length c ∧ l.length ≤ c ∧ c ≤ 9223372036854775807 ∧ RowAt W A gl l ∧ (0 < l.length → base ≤ gl) := by
  obtain ⟨hok, inner, ho, hr⟩ := h
  rcases ho.2 with ⟨hv, h0⟩ | ⟨g, cap, cur, hv, hb, hh, hnc, hcm, hcs, htake⟩
  · have ht : l.length = 0 := h0
    exact ⟨0, 0, none, by rw [hv, ht], by omega, by omega, fun hp => by omega, fun hp => by omega⟩
  · refine ⟨g, cap, _, hv, hnc, hcm, fun _ => ⟨0, cur, rfl, hh, fun j s hs => ?_⟩, fun _ => hb⟩
    have hj := (List.getElem?_eq_some_iff.1 hs).1
    have hM : (inner.drop (j * 3)).take 3 = [Value.int .i64 s.f0, .int .i64 s.f1, .string s.f2] := k41_openM (hr.2 j s hs)
    have cell : ∀ q, q < 3 → cur[0 + 3 * j + q]? = ([Value.int .i64 s.f0, .int .i64 s.f1, .string s.f2] : List Value)[q]? := by
      intro q hq
      have e := congrArg (·[q]?) hM
      simp only [List.getElem?_take, List.getElem?_drop] at e
      rw [if_pos hq] at e
      rw [← e, ← htake, List.getElem?_take, if_pos (show j * 3 + q < l.length * k41.sz from by show j * 3 + q < l.length * 3; omega), Array.getElem?_toList]
      congr 1
      omega
    exact ⟨cell 0 (by omega), cell 1 (by omega), cell 2 (by omega)⟩
set_option maxRecDepth 100000 in
set_option maxHeartbeats 4000000 in
theorem newReader.calls (k : Nat) (A0 : Option Addr) (c0 : Nat) (l0 : List S41) (l : List S41) (t : List Int) (w0 w : World) (hB : Below w0.heap.size w0 w) (hr0 : Kd.C k41 w A0 l0.length l0) (hc0 : l0.length ≤ c0) (h : newR k l0 = some (l, t)) :
    Calls Tryd.prog 68 #[.slice A0 l0.length c0] w fun e w' => ∃ (g gl gt c cB : Nat) (A B : Option Addr), e = .returned (.pointer (some ⟨g, 0, none⟩)) ∧ Rd w' w0.heap.size g gl gt A c B cB l t ∧ Below w.heap.size w w' ∧ w.heap.size ≤ g ∧ (0 < l.length → w.heap.size ≤ gl) ∧ (0 < t.length → w.heap.size ≤ gt) := by
  obtain ⟨l', hl, h⟩ := Option.bind_eq_some_iff.1 h
  obtain ⟨t', ht, h⟩ := Option.bind_eq_some_iff.1 h
  obtain ⟨rfl, rfl⟩ : l' = l ∧ t' = t := by simpa using h
  have HL := Aside0.mk hl
  have HT := Aside0.mk ht
  have HB := Aside0.mk hB
  have HR0 := Aside0.mk hr0
  have HC0 := Aside0.mk hc0
  clear h hl ht hB hr0 hc0
  go_enter Tryd.func68, Tryd.ntmps68
  go_wp2_with (first | (go_at_call 26; (with_reducible refine (normal_Of.calls k _ _ l0 l' _ HR0.out HC0.out HL.out).mono ?_); rintro e w1 ⟨v, rfl, ho, hb⟩; obtain ⟨gl, c, A, rfl, lc, lm, hrow, hgl⟩ := row_own ho; have HW1 := Aside0.mk hb; have LC := Aside0.mk lc; have LM := Aside0.mk lm; have HROW := Aside0.mk hrow; have HGL := Aside0.mk hgl; clear ho hb lc lm hrow hgl) | (go_at_call 84; fail))
  have hs1 : (w1.alloc (.cells #[.slice A l'.length c, .slice none 0 0] 96)).heap.size = w1.heap.size + 1 := size_alloc _ _
  have hsz : w.heap.size ≤ w1.heap.size := HW1.out.size
  have hws : w0.heap.size ≤ w.heap.size := HB.out.size
  have HB2 := Aside0.mk (below_alloc (below_step HB.out HW1.out) (.cells #[.slice A l'.length c, .slice none 0 0] 96))
  have HB2w := Aside0.mk (below_alloc HW1.out (.cells #[.slice A l'.length c, .slice none 0 0] 96))
  have BK := Aside0.mk (blk_new w1 (.cells #[.slice A l'.length c, .slice none 0 0] 96))
  have ROW2 : Aside0 (RowAt (w1.alloc (.cells #[.slice A l'.length c, .slice none 0 0] 96)) A gl l') := ⟨fun hp => by
    obtain ⟨o, cur, e1, e2, e3⟩ := HROW.out hp
    exact ⟨o, cur, e1, blk_alloc e2 _, e3⟩⟩
  have HS1 := Aside0.mk hs1
  clear hs1
  go_wp2_with ((go_at_call 84; (with_reducible refine (reader_load.calls w0.heap.size w1.heap.size gl c A _ l' t' w0 _ rfl HB2.out BK.out LC.out LM.out ROW2.out (Nat.le_trans hws hsz) (fun hp => Nat.le_trans hws (HGL.out hp)) HT.out).mono ?_); rintro e W5 ⟨rfl, gt', cB5, B5', R5, hB5, hO5, hgt5⟩; have RR5 := Aside0.mk R5; have HB5 := Aside0.mk hB5; have HO5 := Aside0.mk hO5; have HG5 := Aside0.mk hgt5; clear R5 hB5 hO5 hgt5))
  go_ret
  refine ⟨_, gl, gt', c, cB5, A, B5', rfl, RR5.out, ?_, hsz, HGL.out, fun hp => by have := HG5.out hp; have := HS1.out; omega⟩
  exact ⟨HB5.out.os.trans HB.out.os.symm, HB5.out.tape.trans HB.out.tape.symm, HB5.out.output.trans HB.out.output.symm, by have := RR5.out.lt.1; omega, fun k hk => (HO5.out k (by have := HS1.out; omega) (by omega)).trans (HB2w.out.block k hk)⟩
theorem takeR_len {l l' : List S41} {t t' : List Int} {n : Int} {x : S41} (h : takeR l t n = some (x, l', t')) : l'.length ≤ l.length ∧ 0 < l.length := by
  cases l with
  | nil => cases h
  | cons s r =>
    refine ⟨?_, by simp⟩
    simp only [takeR] at h
    split at h
    · split at h
      · split at h
        · obtain ⟨t2, _, e⟩ := Option.bind_eq_some_iff.1 h
          injection e with e
          injection e with _ e
          injection e with e _
          subst e
          simp
        · injection h with e
          injection e with _ e
          injection e with e _
          subst e
          exact Nat.le_refl _
      · cases h
    · split at h
      · obtain ⟨t2, _, e⟩ := Option.bind_eq_some_iff.1 h
        injection e with e
        injection e with _ e
        injection e with e _
        subst e
        simp
      · injection h with e
        injection e with _ e
        injection e with e _
        subst e
        simp
structure CmS (w0 W : World) (gx glx gy gly : Nat) (lx : List S41) (tx : List Int) (ly : List S41) (ty : List Int) (out : List S41) (v : Value) : Prop where
  b : Below w0.heap.size w0 W
  x : ∃ (gt c cB : Nat) (A B : Option Addr), Rd W w0.heap.size gx glx gt A c B cB lx tx
  y : ∃ (gt c cB : Nat) (A B : Option Addr), Rd W w0.heap.size gy gly gt A c B cB ly ty
  n1 : gx ≠ gy
  n2 : 0 < lx.length → 0 < ly.length → glx ≠ gly
  o : Kd.R k41 41 W w0.heap.size (fun _ => True) v out
  nx : 0 < lx.length → some glx ≠ v.ownBlock
  ny : 0 < ly.length → some gly ≠ v.ownBlock
theorem CmS.swap {w0 W : World} {gx glx gy gly : Nat} {lx ly out : List S41} {tx ty : List Int} {v : Value} (h : CmS w0 W gx glx gy gly lx tx ly ty out v) : CmS w0 W gy gly gx glx ly ty lx tx out v :=
  ⟨h.b, h.y, h.x, h.n1.symm, fun a b e => h.n2 b a e.symm, h.o, h.ny, h.nx⟩
theorem CmS.below {w0 W W' : World} {gx glx gy gly : Nat} {lx ly out : List S41} {tx ty : List Int} {v : Value} (h : CmS w0 W gx glx gy gly lx tx ly ty out v) (hb : Below W.heap.size W W') : CmS w0 W' gx glx gy gly lx tx ly ty out v := by
  obtain ⟨gt, c, cB, A, B, X⟩ := h.x
  obtain ⟨gt', c', cB', A', B', Y⟩ := h.y
  exact ⟨below_step h.b hb, ⟨gt, c, cB, A, B, X.below hb⟩, ⟨gt', c', cB', A', B', Y.below hb⟩, h.n1, h.n2, Kd.R_below h.o hb, h.nx, h.ny⟩
theorem R_own_only {W : World} {base : Nat} {ok : Nat → Prop} {v : Value} {l : List S41} (h : Kd.R k41 41 W base ok v l) : Kd.R k41 41 W base (fun k => some k = v.ownBlock) v l :=
  Kd.R_flat (fun hm => by obtain rfl := k41_openM hm; exact k41_mkM _ _ _ _) h (fun k hk _ => hk.symm)
theorem R_any {W : World} {base : Nat} {ok : Nat → Prop} {v : Value} {l : List S41} (h : Kd.R k41 41 W base ok v l) : Kd.R k41 41 W base (fun _ => True) v l := Kd.R_mono h (fun _ _ => trivial)
theorem CmS.take {w0 W W' : World} {gx glx gy gly gt : Nat} {lx lx' ly out : List S41} {tx tx' ty : List Int} {v : Value} (h : CmS w0 W gx glx gy gly lx tx ly ty out v) (hp : 0 < lx.length) (hl : lx'.length ≤ lx.length) (tp : TakeP w0 W w0.heap.size gx glx gt lx' tx' W') : CmS w0 W' gx glx gy gly lx' tx' ly ty out v := by
  obtain ⟨gtx, c, cB, A, B, X⟩ := h.x
  obtain ⟨gty, c', cB', A', B', Y⟩ := h.y
  obtain ⟨gtx', c2, cB2, A2, B2, X2, _⟩ := tp.r
  obtain ⟨_, cur, _, xr, _⟩ := X.row hp
  refine ⟨tp.b, ⟨gtx', c2, cB2, A2, B2, X2⟩, ⟨gty, c', cB', A', B', Y.keep (tp.o gy Y.lt.1 (fun e => h.n1 e.symm) (blk_ne Y.blk xr (by decide))) (fun hq => ?_) (fun hq => ?_)⟩, h.n1, fun a b => h.n2 hp b, R_any (Kd.R_step (R_own_only h.o) (fun k hk hlt => tp.o k hlt ?_ ?_)), fun a => h.nx hp, h.ny⟩
  · obtain ⟨_, _, _, yr, _⟩ := Y.row hq
    exact tp.o gly (Y.lt.2.1 hq) (blk_ne yr X.blk (by decide)) (fun e => h.n2 hp hq e.symm)
  · obtain ⟨_, _, _, yt, _⟩ := Y.txt hq
    exact tp.o gty (Y.lt.2.2 hq) (blk_ne yt X.blk (by decide)) (blk_ne yt xr (by decide))
  · intro e
    rw [e] at hk
    exact Kd.R_ne h.o X.blk (by decide) hk
  · intro e
    rw [e] at hk
    exact h.nx hp hk
theorem CmS.append {w0 W w1 : World} {gx glx gy gly : Nat} {lx ly out out' : List S41} {tx ty : List Int} {v v1 : Value} (h : CmS w0 W gx glx gy gly lx tx ly ty out v) (ho : Kd.R k41 41 w1 w0.heap.size (fun _ => True) v1 out') (hb : Below w0.heap.size w0 w1) (hg : W.grownBy w1 v.ownBlock) (hat : v1.ownBlock = v.ownBlock ∨ ∃ b, v1.ownBlock = some b ∧ W.heap.size ≤ b) : CmS w0 w1 gx glx gy gly lx tx ly ty out' v1 := by
  obtain ⟨gtx, c, cB, A, B, X⟩ := h.x
  obtain ⟨gty, c', cB', A', B', Y⟩ := h.y
  have away : ∀ k, k < W.heap.size → some k ≠ v.ownBlock → some k ≠ v1.ownBlock := by
    intro k hk hn e
    rcases hat with e1 | ⟨b, e1, hb⟩
    · exact hn (e.trans e1)
    · rw [e1] at e
      injection e with e
      omega
  refine ⟨hb, ⟨gtx, c, cB, A, B, X.keep (hg.block gx X.lt.1 (Kd.R_ne h.o X.blk (by decide))) (fun hp => hg.block glx (X.lt.2.1 hp) (h.nx hp)) (fun hp => ?_)⟩, ⟨gty, c', cB', A', B', Y.keep (hg.block gy Y.lt.1 (Kd.R_ne h.o Y.blk (by decide))) (fun hp => hg.block gly (Y.lt.2.1 hp) (h.ny hp)) (fun hp => ?_)⟩, h.n1, h.n2, ho, fun hp => away _ (X.lt.2.1 hp) (h.nx hp), fun hp => away _ (Y.lt.2.1 hp) (h.ny hp)⟩
  · obtain ⟨_, _, _, e2, _⟩ := X.txt hp
    exact hg.block gtx (X.lt.2.2 hp) (Kd.R_ne h.o e2 (by decide))
  · obtain ⟨_, _, _, e2, _⟩ := Y.txt hp
    exact hg.block gty (Y.lt.2.2 hp) (Kd.R_ne h.o e2 (by decide))
def composeL : Nat → List S41 → List Int → List S41 → List Int → List S41 → Option (List S41)
  | 0, _, _, _, _, _ => none
  | k + 1, lx, tx, ly, ty, out =>
    if kindR ly = 2 then (takeR ly ty (sizeR ly ty)).bind fun r => if out.length < 4398046511104 then composeL k lx tx r.2.1 r.2.2 (out ++ [r.1]) else none
    else if kindR lx = 3 then (takeR lx tx (sizeR lx tx)).bind fun r => if out.length < 4398046511104 then composeL k r.2.1 r.2.2 ly ty (out ++ [r.1]) else none
    else if kindR lx = 0 ∨ kindR ly = 0 then some out
    else (takeR lx tx (mn (sizeR lx tx) (sizeR ly ty))).bind fun p => (takeR ly ty (mn (sizeR lx tx) (sizeR ly ty))).bind fun q =>
      if q.1.f0 = 1 then (if out.length < 4398046511104 then composeL k p.2.1 p.2.2 q.2.1 q.2.2 (out ++ [p.1]) else none)
      else if p.1.f0 = 1 then (if out.length < 4398046511104 then composeL k p.2.1 p.2.2 q.2.1 q.2.2 (out ++ [q.1]) else none)
      else composeL k p.2.1 p.2.2 q.2.1 q.2.2 out
theorem composeL.mono : ∀ (k : Nat) (lx : List S41) (tx : List Int) (ly : List S41) (ty : List Int) (out : List S41), LeO (composeL k lx tx ly ty out) (composeL (k + 1) lx tx ly ty out)
  | 0, _, _, _, _, _ => fun r h => by cases h
  | k + 1, lx, tx, ly, ty, out => by
    have ih := composeL.mono k
    rw [composeL, composeL]
    split
    · refine LeO.bind (LeO.refl _) (fun r => ?_)
      split
      · exact ih _ _ _ _ _
      · exact LeO.refl _
    · split
      · refine LeO.bind (LeO.refl _) (fun r => ?_)
        split
        · exact ih _ _ _ _ _
        · exact LeO.refl _
      · split
        · exact LeO.refl _
        · refine LeO.bind (LeO.refl _) (fun p => LeO.bind (LeO.refl _) (fun q => ?_))
          split
          · split
            · exact ih _ _ _ _ _
            · exact LeO.refl _
          · split
            · split
              · exact ih _ _ _ _ _
              · exact LeO.refl _
            · exact ih _ _ _ _ _
end Go.Proofs.YthhgobiaecehbaaDoor.F
end
section
namespace Go.Proofs.YthhgobiaecehbaaDoor.F
open Go.RowKit Go.Proofs.YthhgobiaecehbaaDoorW.PrintWords Go.Proofs.YthhgobiaecehbaaDoorW.PrintLast Go.Proofs.YthhgobiaecehbaaDoorW.PrintMore
set_option linter.unusedVariables false
set_option linter.unusedSimpArgs false
theorem Rd.setText {W : World} {n₀ g gl gt gt' c cB cB' : Nat} {A B B' : Option Addr} {l : List S41} {t t' : List Int} (h : Rd W n₀ g gl gt A c B cB l t) (h1 : t'.length ≤ cB') (h2 : cB' ≤ 9223372036854775807) (h3 : TxtAt W B' gt' t') :
    Rd (W.setCell ⟨g, 1, none⟩ (.slice B' t'.length cB')) n₀ g gl gt' A c B' cB' l t' :=
  ⟨blk_put h.blk 1 _ rfl, h.lc, h1, h.lm, h2, fun hp => by
    obtain ⟨o, cur, e1, e2, e3⟩ := h.row hp
    exact ⟨o, cur, e1, (Below.heap_setCell W ⟨g, 1, none⟩ _ gl (blk_ne e2 h.blk (by decide))).trans e2, e3⟩, fun hp => by
    obtain ⟨o, cur, e1, e2, e3⟩ := h3 hp
    exact ⟨o, cur, e1, (Below.heap_setCell W ⟨g, 1, none⟩ _ gt' (blk_ne e2 h.blk (by decide))).trans e2, e3⟩, h.hg, h.hl⟩
theorem Rd.drew {W : World} {n₀ g gl gt c cB : Nat} {A B : Option Addr} {l : List S41} {t : List Int} (h : Rd W n₀ g gl gt A c B cB l t) : Rd W.drew n₀ g gl gt A c B cB l t := h.below (below_drew1 (Below.refl _ _))
theorem Rd.far {W : World} {n₀ g gl gt c cB : Nat} {A B : Option Addr} {l : List S41} {t : List Int} (h : Rd W n₀ g gl gt A c B cB l t) (k j : Nat) (v : Value) (h0 : k ≠ g) (h1 : 0 < l.length → k ≠ gl) (h2 : 0 < t.length → k ≠ gt) : Rd (W.setCell ⟨k, j, none⟩ v) n₀ g gl gt A c B cB l t :=
  h.keep (Below.heap_setCell W ⟨k, j, none⟩ v g (fun e => h0 e.symm)) (fun hp => Below.heap_setCell W ⟨k, j, none⟩ v gl (fun e => h1 hp e.symm)) (fun hp => Below.heap_setCell W ⟨k, j, none⟩ v gt (fun e => h2 hp e.symm))
theorem Rd.setN {W : World} {n₀ g gl gt c cB off : Nat} {B : Option Addr} {s : S41} {r : List S41} {t : List Int} (h : Rd W n₀ g gl gt (some ⟨gl, off, none⟩) c B cB (s :: r) t) (z : Int) : Rd (W.setCell ⟨gl, off + 1, none⟩ (.int .i64 z)) n₀ g gl gt (some ⟨gl, off, none⟩) c B cB (⟨s.f0, z, s.f2⟩ :: r) t := by
  obtain ⟨o, cur, e1, e2, e3⟩ := h.row (by simp)
  obtain rfl : off = o := by simpa using e1
  refine ⟨(Below.heap_setCell W ⟨gl, off + 1, none⟩ _ g (blk_ne h.blk e2 (by decide))).trans h.blk, h.lc, h.tc, h.lm, h.tm, fun _ => ?_, fun hp => ?_, h.hg, fun _ => h.hl (by simp)⟩
  · obtain ⟨cur', f2, f3⟩ := row_set1 z e2 e3
    exact ⟨off, cur', rfl, f2, f3⟩
  · obtain ⟨o, cur2, x1, x2, x3⟩ := h.txt hp
    exact ⟨o, cur2, x1, (Below.heap_setCell W ⟨gl, off + 1, none⟩ _ gt (blk_ne x2 e2 (by decide))).trans x2, x3⟩
def SpanAt (W : World) (b : Nat) (x : S41) : Prop := W.heap[b]? = some (.cells #[.int .i64 x.f0, .int .i64 x.f1, .string x.f2] 41 (0, 0))
theorem SpanAt.cells {W : World} {b : Nat} {x : S41} (h : SpanAt W b x) : W.cell? ⟨b, 0, none⟩ = some (.int .i64 x.f0) ∧ W.cell? ⟨b, 1, none⟩ = some (.int .i64 x.f1) ∧ W.cell? ⟨b, 2, none⟩ = some (.string x.f2) ∧ W.frozen? ⟨b, 0, none⟩ = false ∧ W.frozen? ⟨b, 1, none⟩ = false ∧ W.frozen? ⟨b, 2, none⟩ = false :=
  ⟨(blk_cell h 0).trans rfl, (blk_cell h 1).trans rfl, (blk_cell h 2).trans rfl, blk_frozen h 0, blk_frozen h 1, blk_frozen h 2⟩
theorem SpanAt.set {W : World} {b : Nat} {y : S41} (h : SpanAt W b y) (x : S41) : SpanAt (((W.setCell ⟨b, 0, none⟩ (.int .i64 x.f0)).setCell ⟨b, 1, none⟩ (.int .i64 x.f1)).setCell ⟨b, 2, none⟩ (.string x.f2)) b x :=
  blk_put (blk_put (blk_put h 0 _ rfl) 1 _ rfl) 2 _ rfl
theorem SpanAt.far {W : World} {b k j : Nat} {v : Value} {x : S41} (h : SpanAt W b x) (hne : b ≠ k) : SpanAt (W.setCell ⟨k, j, none⟩ v) b x := (Below.heap_setCell W ⟨k, j, none⟩ v b hne).trans h
theorem take_end {w0 w W : World} {n₀ g gl gt gt' c cB b : Nat} {A B : Option Addr} {l' : List S41} {t' : List Int} (hB : Below n₀ w0 W) (hz : w.heap.size ≤ W.heap.size) (ho : ∀ k, k < w.heap.size → k ≠ g → k ≠ gl → W.heap[k]? = w.heap[k]?) (R : Rd W n₀ g gl gt' A c B cB l' t') (ht : 0 < t'.length → gt' = gt ∨ w.heap.size ≤ gt')
    (hw : n₀ ≤ w.heap.size) (hb : w.heap.size ≤ b) (hgl : g < w.heap.size) (hrow : 0 < l'.length → gl < w.heap.size) (hne : 0 < t'.length → gt' ≠ b)
    (x : S41) : TakeP w0 w n₀ g gl gt l' t' (((W.setCell ⟨b, 0, none⟩ (.int .i64 x.f0)).setCell ⟨b, 1, none⟩ (.int .i64 x.f1)).setCell ⟨b, 2, none⟩ (.string x.f2)) := by
  have hk : ∀ k, k ≠ b → (((W.setCell ⟨b, 0, none⟩ (.int .i64 x.f0)).setCell ⟨b, 1, none⟩ (.int .i64 x.f1)).setCell ⟨b, 2, none⟩ (.string x.f2)).heap[k]? = W.heap[k]? := fun k hk =>
    (Below.heap_setCell _ ⟨b, 2, none⟩ _ k hk).trans ((Below.heap_setCell _ ⟨b, 1, none⟩ _ k hk).trans (Below.heap_setCell _ ⟨b, 0, none⟩ _ k hk))
  have hz2 : (((W.setCell ⟨b, 0, none⟩ (.int .i64 x.f0)).setCell ⟨b, 1, none⟩ (.int .i64 x.f1)).setCell ⟨b, 2, none⟩ (.string x.f2)).heap.size = W.heap.size := by simp [World.setCell]
  exact ⟨((hB.setCell (p := ⟨b, 0, none⟩) (by show n₀ ≤ b; omega) _).setCell (p := ⟨b, 1, none⟩) (by show n₀ ≤ b; omega) _).setCell (p := ⟨b, 2, none⟩) (by show n₀ ≤ b; omega) _, by rw [hz2]; exact hz, fun k hk1 hk2 hk3 => (hk k (by omega)).trans (ho k hk1 hk2 hk3), gt', c, cB, A, B, R.keep (hk g (by omega)) (fun hp => hk gl (by have := hrow hp; omega)) (fun hp => hk gt' (hne hp)), ht⟩
theorem TakeP.drew {w0 w W : World} {n₀ g gl gt : Nat} {l' : List S41} {t' : List Int} (h : TakeP w0 w n₀ g gl gt l' t' W) : TakeP w0 w n₀ g gl gt l' t' W.drew := by
  obtain ⟨gt', c, cB, A, B, R, ht⟩ := h.r
  exact ⟨below_drew1 h.b, h.z, h.o, gt', c, cB, A, B, R.drew, ht⟩
theorem RowAt.drew {W : World} {A : Option Addr} {gl : Nat} {l : List S41} (h : RowAt W A gl l) : RowAt W.drew A gl l := fun hp => by
  obtain ⟨o, cur, e1, e2, e3⟩ := h hp
  exact ⟨o, cur, e1, blk_drew e2, e3⟩
theorem Rd.tail {W : World} {n₀ g gl gt c cB : Nat} {A B : Option Addr} {s : S41} {r : List S41} {t : List Int} (h : Rd W n₀ g gl gt A c B cB (s :: r) t) : RowAt (W.setCell ⟨g, 0, none⟩ (.slice (if c = 1 then A else A.map (·.add (1 * 3))) r.length (c - 1))) (if c = 1 then A else A.map (·.add (1 * 3))) gl r := fun hp => by
  obtain ⟨o, cur, e1, e2, e3⟩ := row_tail h.row h.lc hp
  exact ⟨o, cur, e1, (Below.heap_setCell W ⟨g, 0, none⟩ _ gl (blk_ne e2 h.blk (by decide))).trans e2, e3⟩
set_option maxRecDepth 100000 in
set_option maxHeartbeats 8000000 in
theorem reader_take_put (n₀ g gl gt c cB : Nat) (A B : Option Addr) (s : S41) (r : List S41) (t : List Int) (n : Int) (w0 w : World) (hn₀ : n₀ = w0.heap.size) (hB : Below n₀ w0 w)
    (h : Rd w n₀ g gl gt A c B cB (s :: r) t) (hk : s.f0 = 2) (hn0 : 0 ≤ n) (hn1 : n ≤ (t.length : Int)) (x : S41) (l' : List S41) (t' : List Int) (hT : takeR (s :: r) t n = some (x, l', t')) :
    Calls Tryd.prog 70 #[.pointer (some ⟨g, 0, none⟩), .int .i64 n] w fun e w' => e = .returned (.agg #[.int .i64 x.f0, .int .i64 x.f1, .string x.f2]) ∧ TakeP w0 w n₀ g gl gt l' t' w' := by
  subst hn₀
  obtain ⟨m, rfl⟩ : ∃ m : Nat, n = (m : Int) := ⟨n.toNat, by omega⟩
  have hm : m ≤ t.length := by omega
  have H := Aside0.mk h
  have HB := Aside0.mk hB
  have HT : Aside0 ((if sizeR (s :: r) (t.drop m) = 0 then (loadR r).bind fun t2 => some ((⟨2, 0, runesBytes (t.take m)⟩ : S41), r, t2) else some (⟨2, 0, runesBytes (t.take m)⟩, s :: r, t.drop m)) = some (x, l', t')) := ⟨by
    rw [takeR, if_pos hk, if_pos ⟨hn0, hn1⟩, Int.toNat_natCast] at hT
    exact hT⟩
  obtain ⟨off, rfl, h0, h1, h2, hf⟩ := h.head
  have hb1 : Below w.heap.size w (w.alloc (.cells #[.int .i64 0, .int .i64 0, .string ⟨#[]⟩] 41)) := below_alloc (Below.refl _ _) _
  have R1 := h.below hb1
  have c0 := (blk_cell R1.blk 0).trans (show _ = some (Value.slice (some ⟨gl, off, none⟩) (s :: r).length c) from rfl)
  obtain ⟨off', e1, q0, q1, q2, qf⟩ := R1.head
  obtain rfl : off = off' := by simpa using e1
  have d2 : (s.f0 == 2) = true := by simp [hk]
  have hb2 := Aside0.mk (below_alloc hb1 (.cells #[.int .i64 s.f0, .int .i64 0, .string ⟨#[]⟩] 41))
  have B4 : Aside0 (((w.alloc (.cells #[.int .i64 0, .int .i64 0, .string ⟨#[]⟩] 41)).alloc (.cells #[.int .i64 s.f0, .int .i64 0, .string ⟨#[]⟩] 41)).heap[w.heap.size]? = some (.cells #[.int .i64 0, .int .i64 0, .string ⟨#[]⟩] 41 (0, 0))) := ⟨blk_alloc (blk_new w _) _⟩
  have B5 : Aside0 (((w.alloc (.cells #[.int .i64 0, .int .i64 0, .string ⟨#[]⟩] 41)).alloc (.cells #[.int .i64 s.f0, .int .i64 0, .string ⟨#[]⟩] 41)).heap[w.heap.size + 1]? = some (.cells #[.int .i64 s.f0, .int .i64 0, .string ⟨#[]⟩] 41 (0, 0))) := ⟨by
    have := blk_new (w.alloc (.cells #[.int .i64 0, .int .i64 0, .string ⟨#[]⟩] 41)) (.cells #[.int .i64 s.f0, .int .i64 0, .string ⟨#[]⟩] 41)
    rwa [size_alloc] at this⟩
  have HK := Aside0.mk hk
  have HM := Aside0.mk hm
  simp only [List.length_cons] at c0
  have hzz : Aside0 (((w.alloc (.cells #[.int .i64 0, .int .i64 0, .string ⟨#[]⟩] 41)).alloc (.cells #[.int .i64 s.f0, .int .i64 0, .string ⟨#[]⟩] 41)).heap.size = w.heap.size + 1 + 1) := ⟨by rw [size_alloc, size_alloc]⟩
  clear h hB hT h0 h1 h2 hf hb1 R1 e1 hk hm hn0 hn1
  go_enter Tryd.func70, Tryd.ntmps70
  go_wp2
  obtain ⟨W2, hW2⟩ : ∃ W2, (w.alloc (.cells #[.int .i64 0, .int .i64 0, .string ⟨#[]⟩] 41)).alloc (.cells #[.int .i64 s.f0, .int .i64 0, .string ⟨#[]⟩] 41) = W2 := ⟨_, rfl⟩
  rw [hW2] at hb2 B4 B5 hzz ⊢
  clear hW2 c0 q0 q1 q2 qf
  have R2 := Aside0.mk (H.out.below hb2.out)
  have c0 := (blk_cell R2.out.blk 0).trans (show _ = some (Value.slice (some ⟨gl, off, none⟩) (s :: r).length c) from rfl)
  have c1 := (blk_cell R2.out.blk 1).trans (show _ = some (Value.slice B t.length cB) from rfl)
  have f1 := blk_frozen R2.out.blk 1
  have k2 := (blk_cell B5.out 2).trans (show _ = some (Value.string ⟨#[]⟩) from rfl)
  have kf := blk_frozen B5.out 2
  have hcv : (convert 69 9 (.slice B m cB)).run Tryd.prog W2.drew = _ := conv_take (W := W2.drew) (t := t) (gt := gt) (fun hp => by obtain ⟨o, cur, x1, x2, x3⟩ := R2.out.txt hp; exact ⟨o, cur, x1, blk_drew x2, x3⟩) R2.out.tc R2.out.tm HM.out
  obtain ⟨i0, hi0, _, hsz0, _⟩ := info_parts info21
  have hct := cut_to (P := Tryd.prog) 69 21 .i64 Tryd.underlying69 hi0 B t.length cB (m : Int) (by omega) (by have := HM.out; omega) R2.out.tc
  have hcf := cut_from (P := Tryd.prog) 69 21 .i64 Tryd.underlying69 hi0 1 hsz0 B t.length cB (m : Int) (by omega) (by have := HM.out; omega)
  rw [Int.toNat_natCast] at hct hcf
  obtain ⟨B', hB'⟩ : ∃ B', (if cB = m then B else B.map (·.add (m * 1))) = B' := ⟨_, rfl⟩
  rw [hB'] at hcf
  have HBB := Aside0.mk hB'
  obtain ⟨str, hstr⟩ : ∃ str, runesBytes (t.take m) = str := ⟨_, rfl⟩
  rw [hstr] at hcv
  have HSTR := Aside0.mk hstr
  clear hB' hi0 hsz0 hstr
  go_region
  have hgw := Aside0.mk H.out.lt
  have hlen : (t.drop m).length = t.length - m := List.length_drop
  have RS : Aside0 (Rd (((W2.setCell ⟨w.heap.size + 1, 2, none⟩ (.string str)).setCell ⟨g, 1, none⟩ (.slice B' (t.length - m) (cB - m))).drew) w0.heap.size g gl gt (some ⟨gl, off, none⟩) c B' (cB - m) (s :: r) (t.drop m)) := ⟨by
    have h1 := R2.out.far (w.heap.size + 1) 2 (.string str) (by have := hgw.out.1; omega) (fun hp => by have := hgw.out.2.1 hp; omega) (fun hp => by have := hgw.out.2.2 hp; omega)
    have h2 := txt_drop (m := m) h1.txt h1.tc HM.out
    rw [HBB.out] at h2
    have h3 := h1.setText (t' := t.drop m) (cB' := cB - m) (by have := h1.tc; omega) (by have := h1.tm; omega) h2
    rw [hlen] at h3
    exact h3.drew⟩
  have S5 : Aside0 (SpanAt (((W2.setCell ⟨w.heap.size + 1, 2, none⟩ (.string str)).setCell ⟨g, 1, none⟩ (.slice B' (t.length - m) (cB - m))).drew) (w.heap.size + 1) ⟨2, 0, str⟩) := ⟨by
    have := blk_drew ((Below.heap_setCell (W2.setCell ⟨w.heap.size + 1, 2, none⟩ (.string str)) ⟨g, 1, none⟩ (.slice B' (t.length - m) (cB - m)) (w.heap.size + 1) (by have := hgw.out.1; show w.heap.size + 1 ≠ g; omega)).trans (blk_put B5.out 2 (.string str) rfl))
    rw [HK.out] at this
    exact this⟩
  have S4 : Aside0 (SpanAt (((W2.setCell ⟨w.heap.size + 1, 2, none⟩ (.string str)).setCell ⟨g, 1, none⟩ (.slice B' (t.length - m) (cB - m))).drew) w.heap.size ⟨0, 0, ⟨#[]⟩⟩) := ⟨blk_drew ((Below.heap_setCell (W2.setCell ⟨w.heap.size + 1, 2, none⟩ (.string str)) ⟨g, 1, none⟩ (.slice B' (t.length - m) (cB - m)) w.heap.size (by have := hgw.out.1; show w.heap.size ≠ g; omega)).trans ((Below.heap_setCell W2 ⟨w.heap.size + 1, 2, none⟩ (.string str) w.heap.size (by show w.heap.size ≠ w.heap.size + 1; omega)).trans B4.out))⟩
  have HO : Aside0 (∀ k, k < w.heap.size → k ≠ g → (((W2.setCell ⟨w.heap.size + 1, 2, none⟩ (.string str)).setCell ⟨g, 1, none⟩ (.slice B' (t.length - m) (cB - m))).drew).heap[k]? = w.heap[k]?) := ⟨fun k hk hkg => (Below.heap_setCell _ ⟨g, 1, none⟩ _ k hkg).trans ((Below.heap_setCell W2 ⟨w.heap.size + 1, 2, none⟩ _ k (by show k ≠ w.heap.size + 1; omega)).trans (hb2.out.block k hk))⟩
  have HB3 : Aside0 (Below w0.heap.size w0 (((W2.setCell ⟨w.heap.size + 1, 2, none⟩ (.string str)).setCell ⟨g, 1, none⟩ (.slice B' (t.length - m) (cB - m))).drew)) := ⟨by
    have hw : w0.heap.size ≤ w.heap.size := by exact HB.out.size
    exact below_drew1 ((((HB.out).trans (hb2.out.mono hw)).setCell (p := ⟨w.heap.size + 1, 2, none⟩) (by show w0.heap.size ≤ w.heap.size + 1; omega) _).setCell (p := ⟨g, 1, none⟩) H.out.hg _)⟩
  have hz3 : Aside0 ((((W2.setCell ⟨w.heap.size + 1, 2, none⟩ (.string str)).setCell ⟨g, 1, none⟩ (.slice B' (t.length - m) (cB - m))).drew).heap.size = w.heap.size + 1 + 1) := ⟨by have := hzz.out; simpa [World.setCell, World.drew] using this⟩
  obtain ⟨W3, hW3⟩ : ∃ W3, ((W2.setCell ⟨w.heap.size + 1, 2, none⟩ (.string str)).setCell ⟨g, 1, none⟩ (.slice B' (t.length - m) (cB - m))).drew = W3 := ⟨_, rfl⟩
  rw [hW3] at RS S5 S4 HO HB3 hz3 ⊢
  clear hW3 c0 c1 f1 k2 kf hcv hct hcf hlen
  have hgl := hgw.out.1
  have hw := HB.out.size
  obtain ⟨k0, k1, k2, kf0, kf1, kf2⟩ := S5.out.cells
  obtain ⟨j0, j1, j2, jf0, jf1, jf2⟩ := S4.out.cells
  have S4d : Aside0 (SpanAt W3.drew w.heap.size ⟨0, 0, ⟨#[]⟩⟩) := ⟨blk_drew S4.out⟩
  by_cases hz : sizeR (s :: r) (t.drop m) = 0
  · have d3 : (sizeR (s :: r) (t.drop m) == 0) = true := by simp [hz]
    have HTT := HT.out
    rw [if_pos hz] at HTT
    obtain ⟨t2, ht2, he⟩ := Option.bind_eq_some_iff.1 HTT
    obtain ⟨rfl, rfl, rfl⟩ : (⟨2, 0, runesBytes (t.take m)⟩ : S41) = x ∧ r = l' ∧ t2 = t' := by simpa using he
    have e0 := (blk_cell RS.out.blk 0).trans (show _ = some (Value.slice (some ⟨gl, off, none⟩) (s :: r).length c) from rfl)
    have ef := blk_frozen RS.out.blk 0
    obtain ⟨i1, hi1, _, hsz1, _⟩ := info_parts info41
    have hcr := cut_from (P := Tryd.prog) 24 41 .i64 Tryd.underlying24 hi1 3 hsz1 (some ⟨gl, off, none⟩) (s :: r).length c 1 (by omega) (by rw [List.length_cons]; omega)
    rw [show ((1 : Int).toNat) = 1 from rfl, show (s :: r).length - 1 = r.length from rfl] at hcr
    have RT := Aside0.mk RS.out.tail.drew
    have BKT : Aside0 ((W3.setCell ⟨g, 0, none⟩ (.slice (if c = 1 then (some ⟨gl, off, none⟩ : Option Addr) else (some ⟨gl, off, none⟩ : Option Addr).map (·.add (1 * 3))) r.length (c - 1))).drew.heap[g]? = some (.cells #[.slice (if c = 1 then (some ⟨gl, off, none⟩ : Option Addr) else (some ⟨gl, off, none⟩ : Option Addr).map (·.add (1 * 3))) r.length (c - 1), .slice B' (t.drop m).length (cB - m)] 96 (0, 0))) := ⟨blk_drew (blk_put RS.out.blk 0 _ rfl)⟩
    obtain ⟨A2, hA2⟩ : ∃ A2, (if c = 1 then (some ⟨gl, off, none⟩ : Option Addr) else (some ⟨gl, off, none⟩ : Option Addr).map (·.add (1 * 3))) = A2 := ⟨_, rfl⟩
    rw [hA2] at hcr RT BKT
    have HBT := Aside0.mk (below_drew1 (HB3.out.setCell (p := ⟨g, 0, none⟩) H.out.hg (.slice A2 r.length (c - 1))))
    have LCC : Aside0 (r.length ≤ c - 1 ∧ c - 1 ≤ 9223372036854775807) := ⟨by have h1 := RS.out.lc; have h2 := RS.out.lm; rw [List.length_cons] at h1; omega⟩
    have HLR := Aside0.mk ht2
    have HGG := Aside0.mk H.out.hg
    have HLL : Aside0 (0 < r.length → w0.heap.size ≤ gl) := ⟨fun _ => H.out.hl (by simp)⟩
    have hzT : Aside0 ((W3.setCell ⟨g, 0, none⟩ (.slice A2 r.length (c - 1))).drew.heap.size = w.heap.size + 1 + 1) := ⟨by have := hz3.out; simpa [World.setCell, World.drew] using this⟩
    have S5T : Aside0 (SpanAt (W3.setCell ⟨g, 0, none⟩ (.slice A2 r.length (c - 1))).drew (w.heap.size + 1) ⟨2, 0, str⟩) := ⟨blk_drew (S5.out.far (by omega))⟩
    have S4T : Aside0 (SpanAt (W3.setCell ⟨g, 0, none⟩ (.slice A2 r.length (c - 1))).drew w.heap.size ⟨0, 0, ⟨#[]⟩⟩) := ⟨blk_drew (S4.out.far (by omega))⟩
    have HOT : Aside0 (∀ k, k < w.heap.size → k ≠ g → (W3.setCell ⟨g, 0, none⟩ (.slice A2 r.length (c - 1))).drew.heap[k]? = w.heap[k]?) := ⟨fun k hk hkg => (Below.heap_setCell W3 ⟨g, 0, none⟩ _ k hkg).trans (HO.out k hk hkg)⟩
    rw [List.length_cons] at hcr e0
    clear HTT hz hA2 he hi1 hsz1 ht2
    go_wp2_with (first | (go_at_call 71; (with_reducible refine (reader_size.calls w0.heap.size g gl gt c _ _ _ (s :: r) (t.drop m) _ RS.out (Nat.succ_pos _)).mono ?_); rintro e W4 ⟨rfl, rfl⟩) | (go_at_call 84; (with_reducible refine (reader_load.calls w0.heap.size g gl (c - 1) A2 _ r t2 w0 _ rfl HBT.out BKT.out LCC.out.1 LCC.out.2 RT.out HGG.out HLL.out HLR.out).mono ?_); rintro e W5 ⟨rfl, gt', cB5, B5', R5, hB5, hO5, hgt5⟩; have S5U : Aside0 (SpanAt W5 (w.heap.size + 1) ⟨2, 0, str⟩) := ⟨(hO5 _ (by have := hzT.out; omega) (by omega)).trans S5T.out⟩; have S4U : Aside0 (SpanAt W5 w.heap.size ⟨0, 0, ⟨#[]⟩⟩) := ⟨(hO5 _ (by have := hzT.out; omega) (by omega)).trans S4T.out⟩; obtain ⟨u0, u1, u2, uf0, uf1, uf2⟩ := S5U.out.cells; obtain ⟨v0, v1, v2, vf0, vf1, vf2⟩ := S4U.out.cells; have RR5 := Aside0.mk R5; have HB5 := Aside0.mk hB5; have HO5 := Aside0.mk hO5; have HG5 := Aside0.mk hgt5; clear R5 hB5 hO5 hgt5))
    have SF := (SpanAt.set S4U.out (⟨2, 0, str⟩ : S41))
    obtain ⟨m0, m1, m2, _, _, _⟩ := SF.cells
    have FIN := take_end (w := w) (gt := gt) HB5.out (by have := hzT.out; have := RR5.out.lt; have := HB5.out; have h9 := blk_lt S4U.out; omega) (fun k hk hk2 _ => (HO5.out k (by have := hzT.out; omega) hk2).trans (HOT.out k hk hk2)) RR5.out (fun hp => .inr (by have := HG5.out hp; have := hzT.out; omega)) hw (Nat.le_refl _) hgl (fun hp => hgw.out.2.1 (by simp)) (fun hp => by have := HG5.out hp; have := hzT.out; omega) (⟨2, 0, str⟩ : S41)
    exact bodyPost_ret (v := .agg #[.int .i64 2, .int .i64 0, .string str]) (by simp [results, Tryd.results70, Tryd.f70, go_sem, m0, m1, m2]) rfl ⟨by rw [HSTR.out], FIN⟩
  · have d3 : (sizeR (s :: r) (t.drop m) == 0) = false := by simp [hz]
    have HTT := HT.out
    rw [if_neg hz] at HTT
    obtain ⟨rfl, rfl, rfl⟩ : (⟨2, 0, runesBytes (t.take m)⟩ : S41) = x ∧ s :: r = l' ∧ t.drop m = t' := by simpa using HTT
    have FIN := Aside0.mk (take_end (w := w) HB3.out (by show w.heap.size ≤ W3.heap.size; have := hz3.out; omega) (fun k hk hk2 _ => HO.out k hk hk2) RS.out (fun _ => .inl rfl) (by omega) (Nat.le_refl _) hgl (fun hp => hgw.out.2.1 (by simp)) (fun hp => by have := hgw.out.2.2 (by rw [List.length_drop] at hp; omega); omega) (⟨2, 0, str⟩ : S41))
    clear HTT hz
    go_wp2_with (go_at_call 71; (with_reducible refine (reader_size.calls w0.heap.size g gl gt c _ _ _ (s :: r) (t.drop m) _ RS.out (Nat.succ_pos _)).mono ?_); rintro e W4 ⟨rfl, rfl⟩)
    have SF := (SpanAt.set S4.out (⟨2, 0, str⟩ : S41))
    obtain ⟨m0, m1, m2, _, _, _⟩ := SF.cells
    exact bodyPost_ret (v := .agg #[.int .i64 2, .int .i64 0, .string str]) (by simp [results, Tryd.results70, Tryd.f70, go_sem, m0, m1, m2]) rfl ⟨by rw [HSTR.out], FIN.out.drew⟩
set_option maxRecDepth 100000 in
set_option maxHeartbeats 8000000 in
theorem reader_take_cut (n₀ g gl gt c cB : Nat) (A B : Option Addr) (s : S41) (r : List S41) (t : List Int) (n : Int) (w0 w : World) (hn₀ : n₀ = w0.heap.size) (hB : Below n₀ w0 w)
    (h : Rd w n₀ g gl gt A c B cB (s :: r) t) (hk : ¬ s.f0 = 2) (x : S41) (l' : List S41) (t' : List Int) (hT : takeR (s :: r) t n = some (x, l', t')) :
    Calls Tryd.prog 70 #[.pointer (some ⟨g, 0, none⟩), .int .i64 n] w fun e w' => e = .returned (.agg #[.int .i64 x.f0, .int .i64 x.f1, .string x.f2]) ∧ TakeP w0 w n₀ g gl gt l' t' w' := by
  subst hn₀
  have H := Aside0.mk h
  have HB := Aside0.mk hB
  have HT : Aside0 ((if sizeR (⟨s.f0, wrap64 (s.f1 - n), s.f2⟩ :: r) t = 0 then (loadR r).bind fun t2 => some ((⟨s.f0, n, ⟨#[]⟩⟩ : S41), r, t2) else some (⟨s.f0, n, ⟨#[]⟩⟩, ⟨s.f0, wrap64 (s.f1 - n), s.f2⟩ :: r, t)) = some (x, l', t')) := ⟨by
    rw [takeR, if_neg hk] at hT
    exact hT⟩
  obtain ⟨off, rfl, h0, h1, h2, hf⟩ := h.head
  have hb1 : Below w.heap.size w (w.alloc (.cells #[.int .i64 0, .int .i64 0, .string ⟨#[]⟩] 41)) := below_alloc (Below.refl _ _) _
  have R1 := h.below hb1
  have c0 := (blk_cell R1.blk 0).trans (show _ = some (Value.slice (some ⟨gl, off, none⟩) (s :: r).length c) from rfl)
  obtain ⟨off', e1, q0, q1, q2, qf⟩ := R1.head
  obtain rfl : off = off' := by simpa using e1
  have d2 : (s.f0 == 2) = false := by simp [hk]
  have hb2 := Aside0.mk (below_alloc hb1 (.cells #[.int .i64 s.f0, .int .i64 n, .string ⟨#[]⟩] 41))
  have B4 : Aside0 (((w.alloc (.cells #[.int .i64 0, .int .i64 0, .string ⟨#[]⟩] 41)).alloc (.cells #[.int .i64 s.f0, .int .i64 n, .string ⟨#[]⟩] 41)).heap[w.heap.size]? = some (.cells #[.int .i64 0, .int .i64 0, .string ⟨#[]⟩] 41 (0, 0))) := ⟨blk_alloc (blk_new w _) _⟩
  have B5 : Aside0 (((w.alloc (.cells #[.int .i64 0, .int .i64 0, .string ⟨#[]⟩] 41)).alloc (.cells #[.int .i64 s.f0, .int .i64 n, .string ⟨#[]⟩] 41)).heap[w.heap.size + 1]? = some (.cells #[.int .i64 s.f0, .int .i64 n, .string ⟨#[]⟩] 41 (0, 0))) := ⟨by
    have := blk_new (w.alloc (.cells #[.int .i64 0, .int .i64 0, .string ⟨#[]⟩] 41)) (.cells #[.int .i64 s.f0, .int .i64 n, .string ⟨#[]⟩] 41)
    rwa [size_alloc] at this⟩
  simp only [List.length_cons] at c0
  have hzz : Aside0 (((w.alloc (.cells #[.int .i64 0, .int .i64 0, .string ⟨#[]⟩] 41)).alloc (.cells #[.int .i64 s.f0, .int .i64 n, .string ⟨#[]⟩] 41)).heap.size = w.heap.size + 1 + 1) := ⟨by rw [size_alloc, size_alloc]⟩
  clear h hB hT h0 h1 h2 hf hb1 R1 e1 hk
  have R2 := Aside0.mk (H.out.below hb2.out)
  have hgw := Aside0.mk H.out.lt
  have c3 := (blk_cell R2.out.blk 0).trans (show _ = some (Value.slice (some ⟨gl, off, none⟩) (s :: r).length c) from rfl)
  obtain ⟨off', e1, p0, p1, p2, pf⟩ := R2.out.head
  obtain rfl : off = off' := by simpa using e1
  rw [List.length_cons] at c3
  have RS := Aside0.mk (R2.out.setN (wrap64 (s.f1 - n)))
  have S5 : Aside0 (SpanAt (((w.alloc (.cells #[.int .i64 0, .int .i64 0, .string ⟨#[]⟩] 41)).alloc (.cells #[.int .i64 s.f0, .int .i64 n, .string ⟨#[]⟩] 41)).setCell ⟨gl, off + 1, none⟩ (.int .i64 (wrap64 (s.f1 - n)))) (w.heap.size + 1) ⟨s.f0, n, ⟨#[]⟩⟩) := ⟨(Below.heap_setCell _ ⟨gl, off + 1, none⟩ _ (w.heap.size + 1) (by have := hgw.out.2.1 (by simp); show w.heap.size + 1 ≠ gl; omega)).trans B5.out⟩
  have S4 : Aside0 (SpanAt (((w.alloc (.cells #[.int .i64 0, .int .i64 0, .string ⟨#[]⟩] 41)).alloc (.cells #[.int .i64 s.f0, .int .i64 n, .string ⟨#[]⟩] 41)).setCell ⟨gl, off + 1, none⟩ (.int .i64 (wrap64 (s.f1 - n)))) w.heap.size ⟨0, 0, ⟨#[]⟩⟩) := ⟨(Below.heap_setCell _ ⟨gl, off + 1, none⟩ _ w.heap.size (by have := hgw.out.2.1 (by simp); show w.heap.size ≠ gl; omega)).trans B4.out⟩
  have HO : Aside0 (∀ k, k < w.heap.size → k ≠ g → k ≠ gl → (((w.alloc (.cells #[.int .i64 0, .int .i64 0, .string ⟨#[]⟩] 41)).alloc (.cells #[.int .i64 s.f0, .int .i64 n, .string ⟨#[]⟩] 41)).setCell ⟨gl, off + 1, none⟩ (.int .i64 (wrap64 (s.f1 - n)))).heap[k]? = w.heap[k]?) := ⟨fun k hk _ hkl => (Below.heap_setCell _ ⟨gl, off + 1, none⟩ _ k hkl).trans (hb2.out.block k hk)⟩
  have HB3 : Aside0 (Below w0.heap.size w0 (((w.alloc (.cells #[.int .i64 0, .int .i64 0, .string ⟨#[]⟩] 41)).alloc (.cells #[.int .i64 s.f0, .int .i64 n, .string ⟨#[]⟩] 41)).setCell ⟨gl, off + 1, none⟩ (.int .i64 (wrap64 (s.f1 - n))))) := ⟨by
    have hw : w0.heap.size ≤ w.heap.size := HB.out.size
    exact ((HB.out).trans (hb2.out.mono hw)).setCell (p := ⟨gl, off + 1, none⟩) (H.out.hl (by simp)) _⟩
  have hz3 : Aside0 ((((w.alloc (.cells #[.int .i64 0, .int .i64 0, .string ⟨#[]⟩] 41)).alloc (.cells #[.int .i64 s.f0, .int .i64 n, .string ⟨#[]⟩] 41)).setCell ⟨gl, off + 1, none⟩ (.int .i64 (wrap64 (s.f1 - n)))).heap.size = w.heap.size + 1 + 1) := ⟨by have := hzz.out; simp [World.setCell]⟩
  clear e1
  go_enter Tryd.func70, Tryd.ntmps70
  go_wp2_with (go_at_call 71; fail)
  obtain ⟨W3, hW3⟩ : ∃ W3, ((w.alloc (.cells #[.int .i64 0, .int .i64 0, .string ⟨#[]⟩] 41)).alloc (.cells #[.int .i64 s.f0, .int .i64 n, .string ⟨#[]⟩] 41)).setCell ⟨gl, off + 1, none⟩ (.int .i64 (wrap64 (s.f1 - n))) = W3 := ⟨_, rfl⟩
  rw [hW3] at RS S5 S4 HO HB3 hz3 ⊢
  clear hW3 c0 c3 p0 p1 p2 pf q0 q1 q2 qf
  have hgl := hgw.out.1
  have hw := HB.out.size
  obtain ⟨k0, k1, k2, kf0, kf1, kf2⟩ := S5.out.cells
  obtain ⟨j0, j1, j2, jf0, jf1, jf2⟩ := S4.out.cells
  have S4d : Aside0 (SpanAt W3.drew w.heap.size ⟨0, 0, ⟨#[]⟩⟩) := ⟨blk_drew S4.out⟩
  by_cases hz : sizeR (⟨s.f0, wrap64 (s.f1 - n), s.f2⟩ :: r) t = 0
  · have d3 : (sizeR (⟨s.f0, wrap64 (s.f1 - n), s.f2⟩ :: r) t == 0) = true := by simp [hz]
    have HTT := HT.out
    rw [if_pos hz] at HTT
    obtain ⟨t2, ht2, he⟩ := Option.bind_eq_some_iff.1 HTT
    obtain ⟨rfl, rfl, rfl⟩ : (⟨s.f0, n, ⟨#[]⟩⟩ : S41) = x ∧ r = l' ∧ t2 = t' := by simpa using he
    have e0 := (blk_cell RS.out.blk 0).trans (show _ = some (Value.slice (some ⟨gl, off, none⟩) (r.length + 1) c) from rfl)
    have ef := blk_frozen RS.out.blk 0
    obtain ⟨i1, hi1, _, hsz1, _⟩ := info_parts info41
    have hcr := cut_from (P := Tryd.prog) 24 41 .i64 Tryd.underlying24 hi1 3 hsz1 (some ⟨gl, off, none⟩) (r.length + 1) c 1 (by omega) (by omega)
    rw [show ((1 : Int).toNat) = 1 from rfl, show (r.length + 1) - 1 = r.length from rfl] at hcr
    have RT := Aside0.mk RS.out.tail.drew
    have BKT : Aside0 ((W3.setCell ⟨g, 0, none⟩ (.slice (if c = 1 then (some ⟨gl, off, none⟩ : Option Addr) else (some ⟨gl, off, none⟩ : Option Addr).map (·.add (1 * 3))) r.length (c - 1))).drew.heap[g]? = some (.cells #[.slice (if c = 1 then (some ⟨gl, off, none⟩ : Option Addr) else (some ⟨gl, off, none⟩ : Option Addr).map (·.add (1 * 3))) r.length (c - 1), .slice B t.length cB] 96 (0, 0))) := ⟨blk_drew (blk_put RS.out.blk 0 _ rfl)⟩
    obtain ⟨A2, hA2⟩ : ∃ A2, (if c = 1 then (some ⟨gl, off, none⟩ : Option Addr) else (some ⟨gl, off, none⟩ : Option Addr).map (·.add (1 * 3))) = A2 := ⟨_, rfl⟩
    rw [hA2] at hcr RT BKT
    have HBT := Aside0.mk (below_drew1 (HB3.out.setCell (p := ⟨g, 0, none⟩) H.out.hg (.slice A2 r.length (c - 1))))
    have LCC : Aside0 (r.length ≤ c - 1 ∧ c - 1 ≤ 9223372036854775807) := ⟨by have h1 := RS.out.lc; have h2 := RS.out.lm; rw [List.length_cons] at h1; omega⟩
    have HLR := Aside0.mk ht2
    have HGG := Aside0.mk H.out.hg
    have HLL : Aside0 (0 < r.length → w0.heap.size ≤ gl) := ⟨fun _ => H.out.hl (by simp)⟩
    have hzT : Aside0 ((W3.setCell ⟨g, 0, none⟩ (.slice A2 r.length (c - 1))).drew.heap.size = w.heap.size + 1 + 1) := ⟨by have := hz3.out; simpa [World.setCell, World.drew] using this⟩
    have S5T : Aside0 (SpanAt (W3.setCell ⟨g, 0, none⟩ (.slice A2 r.length (c - 1))).drew (w.heap.size + 1) ⟨s.f0, n, ⟨#[]⟩⟩) := ⟨blk_drew (S5.out.far (by omega))⟩
    have S4T : Aside0 (SpanAt (W3.setCell ⟨g, 0, none⟩ (.slice A2 r.length (c - 1))).drew w.heap.size ⟨0, 0, ⟨#[]⟩⟩) := ⟨blk_drew (S4.out.far (by omega))⟩
    have HOT : Aside0 (∀ k, k < w.heap.size → k ≠ g → k ≠ gl → (W3.setCell ⟨g, 0, none⟩ (.slice A2 r.length (c - 1))).drew.heap[k]? = w.heap[k]?) := ⟨fun k hk hkg hkl => (Below.heap_setCell W3 ⟨g, 0, none⟩ _ k hkg).trans (HO.out k hk hkg hkl)⟩
    clear HTT hz hA2 he hi1 hsz1 ht2
    go_wp2_with (first | (go_at_call 71; (with_reducible refine (reader_size.calls w0.heap.size g gl gt c _ _ _ (⟨s.f0, wrap64 (s.f1 - n), s.f2⟩ :: r) t _ RS.out (Nat.succ_pos _)).mono ?_); rintro e W4 ⟨rfl, rfl⟩) | (go_at_call 84; (with_reducible refine (reader_load.calls w0.heap.size g gl (c - 1) A2 _ r t2 w0 _ rfl HBT.out BKT.out LCC.out.1 LCC.out.2 RT.out HGG.out HLL.out HLR.out).mono ?_); rintro e W5 ⟨rfl, gt', cB5, B5', R5, hB5, hO5, hgt5⟩; have S5U : Aside0 (SpanAt W5 (w.heap.size + 1) ⟨s.f0, n, ⟨#[]⟩⟩) := ⟨(hO5 _ (by have := hzT.out; omega) (by omega)).trans S5T.out⟩; have S4U : Aside0 (SpanAt W5 w.heap.size ⟨0, 0, ⟨#[]⟩⟩) := ⟨(hO5 _ (by have := hzT.out; omega) (by omega)).trans S4T.out⟩; obtain ⟨u0, u1, u2, uf0, uf1, uf2⟩ := S5U.out.cells; obtain ⟨v0, v1, v2, vf0, vf1, vf2⟩ := S4U.out.cells; have RR5 := Aside0.mk R5; have HB5 := Aside0.mk hB5; have HO5 := Aside0.mk hO5; have HG5 := Aside0.mk hgt5; clear R5 hB5 hO5 hgt5))
    have SF := (SpanAt.set S4U.out (⟨s.f0, n, ⟨#[]⟩⟩ : S41))
    obtain ⟨m0, m1, m2, _, _, _⟩ := SF.cells
    have FIN := take_end (w := w) (gt := gt) HB5.out (by have := hzT.out; have := RR5.out.lt; have := HB5.out; have h9 := blk_lt S4U.out; omega) (fun k hk hk2 hk3 => (HO5.out k (by have := hzT.out; omega) hk2).trans (HOT.out k hk hk2 hk3)) RR5.out (fun hp => .inr (by have := HG5.out hp; have := hzT.out; omega)) hw (Nat.le_refl _) hgl (fun hp => hgw.out.2.1 (by simp)) (fun hp => by have := HG5.out hp; have := hzT.out; omega) (⟨s.f0, n, ⟨#[]⟩⟩ : S41)
    exact bodyPost_ret (v := .agg #[.int .i64 s.f0, .int .i64 n, .string ⟨#[]⟩]) (by simp [results, Tryd.results70, Tryd.f70, go_sem, m0, m1, m2]) rfl ⟨rfl, FIN⟩
  · have d3 : (sizeR (⟨s.f0, wrap64 (s.f1 - n), s.f2⟩ :: r) t == 0) = false := by simp [hz]
    have HTT := HT.out
    rw [if_neg hz] at HTT
    obtain ⟨rfl, rfl, rfl⟩ : (⟨s.f0, n, ⟨#[]⟩⟩ : S41) = x ∧ ⟨s.f0, wrap64 (s.f1 - n), s.f2⟩ :: r = l' ∧ t = t' := by simpa using HTT
    have FIN := Aside0.mk (take_end (w := w) HB3.out (by show w.heap.size ≤ W3.heap.size; have := hz3.out; omega) (HO.out) RS.out (fun _ => .inl rfl) (by omega) (Nat.le_refl _) hgl (fun hp => hgw.out.2.1 (by simp)) (fun hp => by have := hgw.out.2.2 hp; omega) (⟨s.f0, n, ⟨#[]⟩⟩ : S41))
    clear HTT hz
    go_wp2_with (go_at_call 71; (with_reducible refine (reader_size.calls w0.heap.size g gl gt c _ _ _ (⟨s.f0, wrap64 (s.f1 - n), s.f2⟩ :: r) t _ RS.out (Nat.succ_pos _)).mono ?_); rintro e W4 ⟨rfl, rfl⟩)
    have SF := (SpanAt.set S4.out (⟨s.f0, n, ⟨#[]⟩⟩ : S41))
    obtain ⟨m0, m1, m2, _, _, _⟩ := SF.cells
    exact bodyPost_ret (v := .agg #[.int .i64 s.f0, .int .i64 n, .string ⟨#[]⟩]) (by simp [results, Tryd.results70, Tryd.f70, go_sem, m0, m1, m2]) rfl ⟨rfl, FIN.out.drew⟩
theorem reader_take.calls (n₀ g gl gt c cB : Nat) (A B : Option Addr) (l : List S41) (t : List Int) (n : Int) (w0 w : World) (hn₀ : n₀ = w0.heap.size) (hB : Below n₀ w0 w)
    (h : Rd w n₀ g gl gt A c B cB l t) (x : S41) (l' : List S41) (t' : List Int) (hT : takeR l t n = some (x, l', t')) :
    Calls Tryd.prog 70 #[.pointer (some ⟨g, 0, none⟩), .int .i64 n] w fun e w' => e = .returned (.agg #[.int .i64 x.f0, .int .i64 x.f1, .string x.f2]) ∧ TakeP w0 w n₀ g gl gt l' t' w' := by
  cases l with
  | nil => cases hT
  | cons s r =>
    by_cases hk : s.f0 = 2
    · by_cases hn : 0 ≤ n ∧ n ≤ (t.length : Int)
      · exact reader_take_put n₀ g gl gt c cB A B s r t n w0 w hn₀ hB h hk hn.1 hn.2 x l' t' hT
      · rw [takeR, if_pos hk, if_neg hn] at hT
        cases hT
    · exact reader_take_cut n₀ g gl gt c cB A B s r t n w0 w hn₀ hB h hk x l' t' hT
end Go.Proofs.YthhgobiaecehbaaDoor.F
end
section
namespace Go.Proofs.YthhgobiaecehbaaDoor.F
open Go.RowKit Go.Proofs.YthhgobiaecehbaaDoorW.PrintWords Go.Proofs.YthhgobiaecehbaaDoorW.PrintLast Go.Proofs.YthhgobiaecehbaaDoorW.PrintMore
set_option linter.unusedVariables false
set_option linter.unusedSimpArgs false
def compose_Of.f (k : Nat) (l0 : List S41) (l1 : List S41) : Option (List S41 × Int) :=
  (op_May.f k l0).bind fun e0 => if e0 = 0 then (op_May.f k l1).bind fun e1 => if e1 = 0 then (op_Out.f k l0).bind fun n => (op_In.f k l1).bind fun m => if n = m then
    (newR k l0).bind fun x => (newR k l1).bind fun y => (composeL k x.1 x.2 y.1 y.2 []).bind fun out => (normal_Of.f k out).bind fun r => some (r, 0)
  else some ([], 5) else some ([], e1) else some ([], e0)
theorem compose_Of.mono (l0 l1 : List S41) (k : Nat) : LeO (compose_Of.f k l0 l1) (compose_Of.f (k + 1) l0 l1) := by
  unfold compose_Of.f
  refine LeO.bind (op_May.mono _ _) (fun e0 => ?_)
  split
  · refine LeO.bind (op_May.mono _ _) (fun e1 => ?_)
    split
    · refine LeO.bind (op_Out.mono _ _) (fun n => LeO.bind (op_In.mono _ _) (fun m => ?_))
      split
      · exact LeO.bind (newR.mono _ _) (fun x => LeO.bind (newR.mono _ _) (fun y => LeO.bind (composeL.mono _ _ _ _ _ _) (fun out => LeO.bind (normal_Of.mono _ _) (fun r => LeO.refl _))))
      · exact LeO.refl _
    · exact LeO.refl _
  · exact LeO.refl _
theorem fill_two (A0 A1 : Option Addr) (n0 c0 n1 c1 : Nat) (z : Nat) (hz : z = 1) : Instr.fill (fun i => some (i * z, z)) ((Array.range (2 * z)).map ((Value.slice none 0 0).cells[· % (Value.slice none 0 0).cells.size]!)) [(0, .slice A0 n0 c0), (1, .slice A1 n1 c1)] = some #[.slice A0 n0 c0, .slice A1 n1 c1] := by
  subst hz
  simp [Instr.fill, Value.cells]
  rw [show Array.range 2 = #[0, 1] from rfl]
  simp
theorem info_rows : ∃ ie, Tryd.prog.info? 24 = some ie ∧ ie.size = 1 ∧ ie.zero = some (.slice none 0 0) := by
  have h1 : (Tryd.prog.info? 24).map (·.size) = some 1 := by kernel_rfl
  have h2 : (Tryd.prog.info? 24).bind (·.zero) = some (.slice none 0 0) := by kernel_rfl
  cases hie : Tryd.prog.info? 24 with
  | none => rw [hie] at h1; cases h1
  | some ie =>
    rw [hie] at h1 h2
    exact ⟨ie, rfl, by simpa using h1, h2⟩
def MayI (k : Nat) (l0 l1 : List S41) (kq : Nat) (v : Value) : Prop := (v = .int .i64 0 ∧ kq = 2) ∨ (v = .int .i64 1 ∧ kq = 1 ∧ op_May.f k l0 = some 0) ∨ (v = .int .i64 2 ∧ kq = 0 ∧ op_May.f k l0 = some 0 ∧ op_May.f k l1 = some 0)
theorem mn_min (a b : Int) : mn a b = min a b := by unfold mn; omega
theorem R_low {W : World} {b b' : Nat} {ok : Nat → Prop} {v : Value} {l : List S41} (hb : b' ≤ b) (h : Kd.R k41 41 W b ok v l) : Kd.R k41 41 W b' (fun _ => True) v l := Kd.R_mono (Kd.R_lower h hb) (fun _ _ => trivial)
set_option maxHeartbeats 8000000 in
set_option maxRecDepth 100000 in
theorem compose_Of.calls (k : Nat) (A0 : Option Addr) (c0 : Nat) (l0 : List S41) (A1 : Option Addr) (c1 : Nat) (l1 : List S41) (r1 : List S41) (r2 : Int) (w : World) (hG : Glob w) (hr0 : Kd.C k41 w A0 l0.length l0) (hc0 : l0.length ≤ c0) (hr1 : Kd.C k41 w A1 l1.length l1) (hc1 : l1.length ≤ c1) (h : compose_Of.f k l0 l1 = some (r1, r2)) :
    Calls Tryd.prog 41 #[.slice A0 l0.length c0, .slice A1 l1.length c1] w fun e w' => ∃ v0_ : Value, e = .returned (.tuple #[v0_, .int .i64 r2]) ∧ Kd.R k41 41 w' w.heap.size (fun _ => True) v0_ r1 ∧ Below w.heap.size w w' := by
  have HG := Aside0.mk hG
  have HR0 := Aside0.mk hr0
  have HC0 := Aside0.mk hc0
  have HR1 := Aside0.mk hr1
  have HC1 := Aside0.mk hc1
  have H := Aside0.mk h
  have HM : Aside0 (l0.length ≤ 9223372036854775807 ∧ l1.length ≤ 9223372036854775807) := ⟨hr0.2.1, hr1.2.1⟩
  clear hG hr0 hc0 hr1 hc1 h
  go_enter Tryd.func41, Tryd.ntmps41
  obtain ⟨ie, hie, hi1, hi2⟩ := info_rows
  have HIE := Aside0.mk hie
  have HI1 := Aside0.mk hi1
  have HI2 := Aside0.mk hi2
  clear hie hi1 hi2
  go_wp2
  go_step3
  go_wp2_with (refine wpList_buildSlice rfl 22 24 2 _ rfl #[.slice A0 l0.length c0, .slice A1 l1.length c1] ie (.slice none 0 0) (by kernel_rfl) HIE.out HI2.out (by rw [HI1.out]; decide) (by rw [HI1.out]; decide) (fill_two A0 A1 l0.length c0 l1.length c1 ie.size HI1.out) ?_)
  have hws : w.heap.size < (w.alloc (.cells #[.slice A0 l0.length c0, .slice A1 l1.length c1] 24)).heap.size := by rw [size_alloc]; omega
  have HBK := Aside0.mk (blk_new w (.cells #[.slice A0 l0.length c0, .slice A1 l1.length c1] 24))
  have HB0 := Aside0.mk (below_alloc (Below.refl w.heap.size w) (.cells #[.slice A0 l0.length c0, .slice A1 l1.length c1] 24))
  go_loopg [19] 2 (fun kq v19 w' => MayI k l0 l1 kq v19 ∧ Aside0 (Below w.heap.size w w') ∧ Aside0 (w'.heap[w.heap.size]? = some (.cells #[.slice A0 l0.length c0, .slice A1 l1.length c1] 24 (0, 0))))
  case atStart => exact ⟨.inl ⟨rfl, rfl⟩, HB0, HBK⟩
  case round =>
    clear HB0 HBK hws HIE HI1 HI2
    obtain ⟨hm, HBW, HBL⟩ := hrel
    rcases hm with ⟨rfl, rfl⟩ | ⟨rfl, rfl, hm0⟩ | ⟨rfl, rfl, hm0, hm1⟩
    · obtain ⟨e0, he0, hrest⟩ := Option.bind_eq_some_iff.1 (show (op_May.f k l0).bind _ = _ from H.out)
      have cell0 : wr.cell? ⟨w.heap.size, 0, none⟩ = some (.slice A0 l0.length c0) := (blk_cell HBL.out 0).trans rfl
      have HE := Aside0.mk he0
      by_cases hz : e0 = 0
      · subst hz
        clear hrest he0
        go_wp2_with (go_at_call 55; (with_reducible refine (op_May.calls k _ _ l0 0 _ (HG.out.below HBW.out) (Kd.C_below HR0.out HBW.out) HC0.out HE.out).mono ?_); rintro e w1 ⟨rfl, hb⟩; have HB1 := Aside0.mk hb; clear hb)
        go_roundg 1
        case measure => decide
        case rel => exact ⟨.inr (.inl ⟨rfl, rfl, HE.out⟩), ⟨below_step HBW.out HB1.out⟩, ⟨blk_below HBL.out HB1.out⟩⟩
      · rw [if_neg hz] at hrest
        obtain ⟨rfl, rfl⟩ : [] = r1 ∧ e0 = r2 := by simpa using hrest
        have d1 : (e0 != 0) = true := by simp [hz]
        clear hrest he0 hz
        go_wp2_with (go_at_call 55; (with_reducible refine (op_May.calls k _ _ l0 e0 _ (HG.out.below HBW.out) (Kd.C_below HR0.out HBW.out) HC0.out HE.out).mono ?_); rintro e w1 ⟨rfl, hb⟩; have HB1 := Aside0.mk hb; clear hb)
        rw [Exit.noGoto_ret]
        go_ret2
        exact ⟨_, rfl, Kd.R_nil _ _ _ _ _, below_step HBW.out HB1.out⟩
    · obtain ⟨e0, he0, hrest⟩ := Option.bind_eq_some_iff.1 (show (op_May.f k l0).bind _ = _ from H.out)
      obtain rfl : e0 = 0 := by rw [hm0] at he0; exact (Option.some.inj he0).symm
      rw [if_pos rfl] at hrest
      obtain ⟨e1, he1, hrest⟩ := Option.bind_eq_some_iff.1 hrest
      have cell1 : wr.cell? ⟨w.heap.size, 1, none⟩ = some (.slice A1 l1.length c1) := (blk_cell HBL.out 1).trans rfl
      have HE0 := Aside0.mk he0
      have HE := Aside0.mk he1
      by_cases hz : e1 = 0
      · subst hz
        clear hrest he1 he0 hm0
        go_wp2_with (go_at_call 55; (with_reducible refine (op_May.calls k _ _ l1 0 _ (HG.out.below HBW.out) (Kd.C_below HR1.out HBW.out) HC1.out HE.out).mono ?_); rintro e w1 ⟨rfl, hb⟩; have HB1 := Aside0.mk hb; clear hb)
        go_roundg 0
        case measure => decide
        case rel => exact ⟨.inr (.inr ⟨rfl, rfl, HE0.out, HE.out⟩), ⟨below_step HBW.out HB1.out⟩, ⟨blk_below HBL.out HB1.out⟩⟩
      · rw [if_neg hz] at hrest
        obtain ⟨rfl, rfl⟩ : [] = r1 ∧ e1 = r2 := by simpa using hrest
        have d1 : (e1 != 0) = true := by simp [hz]
        clear hrest he1 he0 hm0 hz
        go_wp2_with (go_at_call 55; (with_reducible refine (op_May.calls k _ _ l1 e1 _ (HG.out.below HBW.out) (Kd.C_below HR1.out HBW.out) HC1.out HE.out).mono ?_); rintro e w1 ⟨rfl, hb⟩; have HB1 := Aside0.mk hb; clear hb)
        rw [Exit.noGoto_ret]
        go_ret2
        exact ⟨_, rfl, Kd.R_nil _ _ _ _ _, below_step HBW.out HB1.out⟩
    · obtain ⟨e0, he0, hrest⟩ := Option.bind_eq_some_iff.1 (show (op_May.f k l0).bind _ = _ from H.out)
      obtain rfl : e0 = 0 := by rw [hm0] at he0; exact (Option.some.inj he0).symm
      rw [if_pos rfl] at hrest
      obtain ⟨e1, he1, hrest⟩ := Option.bind_eq_some_iff.1 hrest
      obtain rfl : e1 = 0 := by rw [hm1] at he1; exact (Option.some.inj he1).symm
      rw [if_pos rfl] at hrest
      obtain ⟨n, hn, hrest⟩ := Option.bind_eq_some_iff.1 hrest
      obtain ⟨m, hm, hrest⟩ := Option.bind_eq_some_iff.1 hrest
      have HN := Aside0.mk hn
      have HMM := Aside0.mk hm
      clear he0 he1 hm0 hm1 hn hm HBL
      by_cases hz : n = m
      · subst hz
        rw [if_pos rfl] at hrest
        obtain ⟨⟨lx, tx⟩, hx, hrest⟩ := Option.bind_eq_some_iff.1 hrest
        obtain ⟨⟨ly, ty⟩, hy, hrest⟩ := Option.bind_eq_some_iff.1 hrest
        obtain ⟨out, ho, hrest⟩ := Option.bind_eq_some_iff.1 hrest
        obtain ⟨r, hr, hrest⟩ := Option.bind_eq_some_iff.1 hrest
        obtain ⟨rfl, rfl⟩ : r = r1 ∧ 0 = r2 := by simpa using hrest
        have HX := Aside0.mk hx
        have HY := Aside0.mk hy
        have HO := Aside0.mk ho
        have HRR := Aside0.mk hr
        clear hx hy ho hr hrest
        go_wp2_with (first | (go_at_call 22; (with_reducible refine (op_Out.calls k _ _ l0 n _ (HG.out.below HBW.out) (Kd.C_below HR0.out HBW.out) HC0.out HN.out).mono ?_); rintro e w1 ⟨rfl, hb⟩; have HB1 := Aside0.mk (below_step HBW.out hb); clear hb) | (go_at_call 56; (with_reducible refine (op_In.calls k _ _ l1 n _ (HG.out.below HB1.out) (Kd.C_below HR1.out HB1.out) HC1.out HMM.out).mono ?_); rintro e w2 ⟨rfl, hb⟩; have HB2 := Aside0.mk (below_step HB1.out hb); clear hb) | (go_at_call 68; (with_reducible refine (newReader.calls k A0 c0 l0 lx tx w _ HB2.out (Kd.C_below HR0.out HB2.out) HC0.out HX.out).mono ?_); rintro e w3 ⟨gx, glx, gtx, cx, cBx, Ax, Bx, rfl, RX, hb, _, _, _⟩; have HB3 := Aside0.mk (below_step HB2.out hb); have HRX := Aside0.mk RX; clear hb RX) | (go_at_call 68; (with_reducible refine (newReader.calls k A1 c1 l1 ly ty w _ HB3.out (Kd.C_below HR1.out HB3.out) HC1.out HY.out).mono ?_); rintro e w4 ⟨gy, gly, gty, cy, cBy, Ay, By, rfl, RY, hb, hy1, hy2, hy3⟩; have ST0 : Aside0 (CmS w w4 gx glx gy gly lx tx ly ty [] (.slice none 0 0)) := ⟨⟨below_step HB3.out hb, ⟨gtx, cx, cBx, Ax, Bx, HRX.out.below hb⟩, ⟨gty, cy, cBy, Ay, By, RY⟩, (by have := HRX.out.lt.1; omega), (fun a b => by have := HRX.out.lt.2.1 a; have := hy2 b; omega), Kd.R_nil _ _ _ _ _, (fun _ e => by cases e), (fun _ e => by cases e)⟩⟩; clear hb RY hy1 hy2 hy3))
        go_step3
        go_wp2
        go_loopg [11] k (fun kq v11 w' => ∃ (lx' : List S41) (tx' : List Int) (ly' : List S41) (ty' : List Int) (o : List S41), Aside0 (CmS w w' gx glx gy gly lx' tx' ly' ty' o v11) ∧ Aside0 (composeL kq lx' tx' ly' ty' o = some out))
        case atStart => exact ⟨_, _, _, _, _, ST0, HO⟩
        case round =>
          -- ROUND
          obtain ⟨lx, tx, ly, ty, o, ST, HC⟩ := hrel
          have hc := HC.out
          clear ST0 HO
          cases gk with
          | zero => cases hc
          | succ kq =>
            rw [composeL] at hc
            obtain ⟨gtx, cx, cBx, Ax, Bx, Rx⟩ := ST.out.x
            obtain ⟨gty, cy, cBy, Ay, By, Ry⟩ := ST.out.y
            replace Rx := Aside0.mk Rx
            replace Ry := Aside0.mk Ry
            by_cases hy2 : kindR ly = 2
            · rw [if_pos hy2] at hc
              obtain ⟨⟨x, ly2, ty2⟩, hT, hc⟩ := Option.bind_eq_some_iff.1 hc
              split at hc
              · next hlt =>
                have d0 : (kindR ly == 2) = true := by simp [hy2]
                have HTy := Aside0.mk hT
                have HPy : Aside0 (0 < ly.length) := ⟨(takeR_len hT).2⟩
                have HC2 := Aside0.mk hc
                have HLT := Aside0.mk hlt
                clear hT hc hlt hy2 HC
                go_wp2_with (first | (go_at_call 69; (with_reducible refine (reader_kind.calls w.heap.size gy gly gty cy cBy Ay By ly ty _ Ry.out).mono ?_); rintro e w1 ⟨rfl, rfl⟩) | (go_at_call 71; (with_reducible refine (reader_size.calls w.heap.size gy gly gty cy cBy Ay By ly ty _ Ry.out HPy.out).mono ?_); rintro e w1 ⟨rfl, rfl⟩) | (go_at_call 70; (with_reducible refine (reader_take.calls w.heap.size gy gly gty cy cBy Ay By ly ty (sizeR ly ty) w _ rfl (below_drew1 ST.out.b) (Ry.out.below (below_drew1 (Below.refl _ _))) x ly2 ty2 HTy.out).mono ?_); rintro e W1 ⟨rfl, tp⟩; have ST1 := Aside0.mk (((ST.out.below (below_drew1 (Below.refl _ _))).swap.take HPy.out (takeR_len HTy.out).1 tp).swap); clear tp) | ((with_reducible refine gate_builtin (b := .append) (xs := #[.tmp 42, .tmp 47]) rfl ?_); (try (refine gate_guard (by rfl) ?_; dsimp only)); at_builtin; refine Kd.R_append k41 (w0 := w) w.heap.size rfl (.tmp 42) (.tmp 47) 24 41 (.agg #[.int .i64 0, .int .i64 0, .string ⟨#[]⟩]) 32 rfl Tryd.underlying24 info41 rfl (by decide) (by omega) _ o x [.int .i64 x.f0, .int .i64 x.f1, .string x.f2] (fun _ => True) (fun _ => False) rfl (by first | rfl | (rw [size_alloc, size_alloc]; rfl)) (k41_mkM _ _ _ x) (fun _ hk => hk.elim) (fun _ _ => trivial) ST1.out.o ST1.out.b ST1.out.b.size ?aL ?_; (case aL => have := HLT.out; omega); intro v1 w5 ho1 hb1 hg1 hat1; have STF := Aside0.mk (CmS.append ST1.out ho1 hb1 hg1 hat1); clear ho1 hb1 hg1 hat1))
                go_roundg kq
                case measure => omega
                case rel => exact ⟨_, _, _, _, _, STF, HC2⟩
              · cases hc
            · rw [if_neg hy2] at hc
              have d0 : (kindR ly == 2) = false := by simp [hy2]
              clear hy2
              by_cases hx3 : kindR lx = 3
              · rw [if_pos hx3] at hc
                obtain ⟨⟨x, lx2, tx2⟩, hT, hc⟩ := Option.bind_eq_some_iff.1 hc
                split at hc
                · next hlt =>
                  have d1 : (kindR lx == 3) = true := by simp [hx3]
                  have HTx := Aside0.mk hT
                  have HPx : Aside0 (0 < lx.length) := ⟨(takeR_len hT).2⟩
                  have HC2 := Aside0.mk hc
                  have HLT := Aside0.mk hlt
                  clear hT hc hlt hx3 HC
                  go_wp2_with (first | (go_at_call 69; (with_reducible refine (reader_kind.calls w.heap.size gy gly gty cy cBy Ay By ly ty _ Ry.out).mono ?_); rintro e w1 ⟨rfl, rfl⟩) | (go_at_call 69; (with_reducible refine (reader_kind.calls w.heap.size gx glx gtx cx cBx Ax Bx lx tx _ Rx.out).mono ?_); rintro e w1 ⟨rfl, rfl⟩) | (go_at_call 71; (with_reducible refine (reader_size.calls w.heap.size gx glx gtx cx cBx Ax Bx lx tx _ Rx.out HPx.out).mono ?_); rintro e w1 ⟨rfl, rfl⟩) | (go_at_call 70; (with_reducible refine (reader_take.calls w.heap.size gx glx gtx cx cBx Ax Bx lx tx (sizeR lx tx) w _ rfl (below_drew1 ST.out.b) (Rx.out.below (below_drew1 (Below.refl _ _))) x lx2 tx2 HTx.out).mono ?_); rintro e W1 ⟨rfl, tp⟩; have ST1 := Aside0.mk ((ST.out.below (below_drew1 (Below.refl _ _))).take HPx.out (takeR_len HTx.out).1 tp); clear tp) | ((with_reducible refine gate_builtin (b := .append) (xs := #[.tmp 53, .tmp 58]) rfl ?_); (try (refine gate_guard (by rfl) ?_; dsimp only)); at_builtin; refine Kd.R_append k41 (w0 := w) w.heap.size rfl (.tmp 53) (.tmp 58) 24 41 (.agg #[.int .i64 0, .int .i64 0, .string ⟨#[]⟩]) 32 rfl Tryd.underlying24 info41 rfl (by decide) (by omega) _ o x [.int .i64 x.f0, .int .i64 x.f1, .string x.f2] (fun _ => True) (fun _ => False) rfl (by first | rfl | (rw [size_alloc, size_alloc]; rfl)) (k41_mkM _ _ _ x) (fun _ hk => hk.elim) (fun _ _ => trivial) ST1.out.o ST1.out.b ST1.out.b.size ?aL ?_; (case aL => have := HLT.out; omega); intro v1 w5 ho1 hb1 hg1 hat1; have STF := Aside0.mk (CmS.append ST1.out ho1 hb1 hg1 hat1); clear ho1 hb1 hg1 hat1))
                  go_roundg kq
                  case measure => omega
                  case rel => exact ⟨_, _, _, _, _, STF, HC2⟩
                · cases hc
              · rw [if_neg hx3] at hc
                have d1 : (kindR lx == 3) = false := by simp [hx3]
                clear hx3
                by_cases h00 : kindR lx = 0 ∨ kindR ly = 0
                · rw [if_pos h00] at hc
                  obtain rfl : o = out := Option.some.inj hc
                  have d2 : (kindR lx == 0) = false → (kindR ly == 0) = true := by
                    intro h
                    rcases h00 with h0 | h0
                    · simp [h0] at h
                    · simp [h0]
                  clear hc h00 HC
                  obtain ⟨Av, cv, rfl⟩ := Kd.R_slice ST.out.o
                  obtain ⟨_, hcv, hC⟩ := Kd.R_reads' ST.out.o
                  have HCV := Aside0.mk hcv
                  have HCC := Aside0.mk hC
                  clear hcv hC
                  go_wp2_with (first | (go_at_call 69; (with_reducible refine (reader_kind.calls w.heap.size gy gly gty cy cBy Ay By ly ty _ Ry.out).mono ?_); rintro e w1 ⟨rfl, rfl⟩) | (go_at_call 69; (with_reducible refine (reader_kind.calls w.heap.size gx glx gtx cx cBx Ax Bx lx tx _ Rx.out).mono ?_); rintro e w1 ⟨rfl, rfl⟩) | (go_at_call 26; (with_reducible refine (normal_Of.calls k _ _ o r _ HCC.out HCV.out HRR.out).mono ?_); rintro e W1 ⟨v1, rfl, hv1, hb⟩; have HV1 := Aside0.mk hv1; have HB5 := Aside0.mk hb; clear hv1 hb))
                  all_goals (try rw [Exit.noGoto_ret])
                  all_goals go_ret2
                  all_goals exact ⟨_, rfl, R_low (Nat.le_trans ST.out.b.size (Nat.le_refl _)) HV1.out, below_step ST.out.b HB5.out⟩
                · rw [if_neg h00] at hc
                  simp only [mn_min] at hc
                  have d2 : (kindR lx == 0) = false := by simp; exact fun h => h00 (.inl h)
                  have d3 : (kindR ly == 0) = false := by simp; exact fun h => h00 (.inr h)
                  obtain ⟨⟨p, lx2, tx2⟩, hTx, hc⟩ := Option.bind_eq_some_iff.1 hc
                  obtain ⟨⟨q, ly2, ty2⟩, hTy, hc⟩ := Option.bind_eq_some_iff.1 hc
                  have HTx := Aside0.mk hTx
                  have HTy := Aside0.mk hTy
                  have HPx : Aside0 (0 < lx.length) := ⟨(takeR_len hTx).2⟩
                  have HPy : Aside0 (0 < ly.length) := ⟨(takeR_len hTy).2⟩
                  obtain ⟨Av, cv, rfl⟩ := Kd.R_slice ST.out.o
                  clear hTx hTy h00 HC
                  by_cases hq1 : q.f0 = 1
                  · rw [if_pos hq1] at hc
                    split at hc
                    · next hlt =>
                      have dq : (q.f0 == 1) = true := by simp [hq1]
                      have HC2 := Aside0.mk hc
                      have HLT := Aside0.mk hlt
                      clear hc hlt hq1
                      go_wp2_with (first | (go_at_call 69; (with_reducible refine (reader_kind.calls w.heap.size gy gly gty cy cBy Ay By ly ty _ Ry.out).mono ?_); rintro e w1 ⟨rfl, rfl⟩) | (go_at_call 69; (with_reducible refine (reader_kind.calls w.heap.size gx glx gtx cx cBx Ax Bx lx tx _ Rx.out).mono ?_); rintro e w1 ⟨rfl, rfl⟩) | (go_at_call 71; (with_reducible refine (reader_size.calls w.heap.size gx glx gtx cx cBx Ax Bx lx tx _ Rx.out HPx.out).mono ?_); rintro e w1 ⟨rfl, rfl⟩) | (go_at_call 71; (with_reducible refine (reader_size.calls w.heap.size gy gly gty cy cBy Ay By ly ty _ (Ry.out.below (below_drew1 (Below.refl _ _))) HPy.out).mono ?_); rintro e w1 ⟨rfl, rfl⟩) | (go_at_call 70; (with_reducible refine (reader_take.calls w.heap.size gx glx gtx cx cBx Ax Bx lx tx (min (sizeR lx tx) (sizeR ly ty)) w _ rfl (below_drew1 (below_drew1 ST.out.b)) (Rx.out.below (below_drew1 (below_drew1 (Below.refl _ _)))) p lx2 tx2 HTx.out).mono ?_); rintro e W1 ⟨rfl, tp⟩; have ST1 := Aside0.mk ((ST.out.below (below_drew1 (below_drew1 (Below.refl _ _)))).take HPx.out (takeR_len HTx.out).1 tp); clear tp; obtain ⟨gty3, cy3, cBy3, Ay3, By3, Ry3_⟩ := ST1.out.y; have Ry3 := Aside0.mk Ry3_; clear Ry3_) | (go_at_call 70; (with_reducible refine (reader_take.calls w.heap.size gy gly gty3 cy3 cBy3 Ay3 By3 ly ty (min (sizeR lx tx) (sizeR ly ty)) w _ rfl ST1.out.b Ry3.out q ly2 ty2 HTy.out).mono ?_); rintro e W2 ⟨rfl, tp⟩; have ST2 := Aside0.mk ((ST1.out.swap.take HPy.out (takeR_len HTy.out).1 tp).swap); have ST3 := Aside0.mk (ST2.out.below (below_alloc (below_alloc (Below.refl W2.heap.size W2) (.cells #[.int .i64 p.f0, .int .i64 p.f1, .string p.f2] 41)) (.cells #[.int .i64 q.f0, .int .i64 q.f1, .string q.f2] 41))); clear tp) | ((with_reducible refine gate_builtin (b := .append) (xs := #[.tmp 84, .tmp 86]) rfl ?_); (try (refine gate_guard (by rfl) ?_; dsimp only)); at_builtin; refine Kd.R_append k41 (w0 := w) w.heap.size rfl (.tmp 84) (.tmp 86) 24 41 (.agg #[.int .i64 0, .int .i64 0, .string ⟨#[]⟩]) 32 rfl Tryd.underlying24 info41 rfl (by decide) (by omega) _ o p [.int .i64 p.f0, .int .i64 p.f1, .string p.f2] (fun _ => True) (fun _ => False) rfl (by first | rfl | (rw [size_alloc, size_alloc]; rfl)) (k41_mkM _ _ _ p) (fun _ hk => hk.elim) (fun _ _ => trivial) ST3.out.o ST3.out.b ST3.out.b.size ?aL ?_; (case aL => have := HLT.out; omega); intro v1 w5 ho1 hb1 hg1 hat1; have STF := Aside0.mk (CmS.append ST3.out ho1 hb1 hg1 hat1); clear ho1 hb1 hg1 hat1))
                      go_roundg kq
                      case measure => omega
                      case rel => exact ⟨_, _, _, _, _, STF, HC2⟩
                    · cases hc
                  · rw [if_neg hq1] at hc
                    have dq : (q.f0 == 1) = false := by simp [hq1]
                    by_cases hp1 : p.f0 = 1
                    · rw [if_pos hp1] at hc
                      split at hc
                      · next hlt =>
                        have dp : (p.f0 == 1) = true := by simp [hp1]
                        have HC2 := Aside0.mk hc
                        have HLT := Aside0.mk hlt
                        clear hc hlt hq1 hp1
                        go_wp2_with (first | (go_at_call 69; (with_reducible refine (reader_kind.calls w.heap.size gy gly gty cy cBy Ay By ly ty _ Ry.out).mono ?_); rintro e w1 ⟨rfl, rfl⟩) | (go_at_call 69; (with_reducible refine (reader_kind.calls w.heap.size gx glx gtx cx cBx Ax Bx lx tx _ Rx.out).mono ?_); rintro e w1 ⟨rfl, rfl⟩) | (go_at_call 71; (with_reducible refine (reader_size.calls w.heap.size gx glx gtx cx cBx Ax Bx lx tx _ Rx.out HPx.out).mono ?_); rintro e w1 ⟨rfl, rfl⟩) | (go_at_call 71; (with_reducible refine (reader_size.calls w.heap.size gy gly gty cy cBy Ay By ly ty _ (Ry.out.below (below_drew1 (Below.refl _ _))) HPy.out).mono ?_); rintro e w1 ⟨rfl, rfl⟩) | (go_at_call 70; (with_reducible refine (reader_take.calls w.heap.size gx glx gtx cx cBx Ax Bx lx tx (min (sizeR lx tx) (sizeR ly ty)) w _ rfl (below_drew1 (below_drew1 ST.out.b)) (Rx.out.below (below_drew1 (below_drew1 (Below.refl _ _)))) p lx2 tx2 HTx.out).mono ?_); rintro e W1 ⟨rfl, tp⟩; have ST1 := Aside0.mk ((ST.out.below (below_drew1 (below_drew1 (Below.refl _ _)))).take HPx.out (takeR_len HTx.out).1 tp); clear tp; obtain ⟨gty3, cy3, cBy3, Ay3, By3, Ry3_⟩ := ST1.out.y; have Ry3 := Aside0.mk Ry3_; clear Ry3_) | (go_at_call 70; (with_reducible refine (reader_take.calls w.heap.size gy gly gty3 cy3 cBy3 Ay3 By3 ly ty (min (sizeR lx tx) (sizeR ly ty)) w _ rfl ST1.out.b Ry3.out q ly2 ty2 HTy.out).mono ?_); rintro e W2 ⟨rfl, tp⟩; have ST2 := Aside0.mk ((ST1.out.swap.take HPy.out (takeR_len HTy.out).1 tp).swap); have ST3 := Aside0.mk (ST2.out.below (below_alloc (below_alloc (Below.refl W2.heap.size W2) (.cells #[.int .i64 p.f0, .int .i64 p.f1, .string p.f2] 41)) (.cells #[.int .i64 q.f0, .int .i64 q.f1, .string q.f2] 41))); clear tp) | ((with_reducible refine gate_builtin (b := .append) (xs := #[.tmp 92, .tmp 94]) rfl ?_); (try (refine gate_guard (by rfl) ?_; dsimp only)); at_builtin; refine Kd.R_append k41 (w0 := w) w.heap.size rfl (.tmp 92) (.tmp 94) 24 41 (.agg #[.int .i64 0, .int .i64 0, .string ⟨#[]⟩]) 32 rfl Tryd.underlying24 info41 rfl (by decide) (by omega) _ o q [.int .i64 q.f0, .int .i64 q.f1, .string q.f2] (fun _ => True) (fun _ => False) rfl (by first | rfl | (rw [size_alloc, size_alloc]; rfl)) (k41_mkM _ _ _ q) (fun _ hk => hk.elim) (fun _ _ => trivial) ST3.out.o ST3.out.b ST3.out.b.size ?aL ?_; (case aL => have := HLT.out; omega); intro v1 w5 ho1 hb1 hg1 hat1; have STF := Aside0.mk (CmS.append ST3.out ho1 hb1 hg1 hat1); clear ho1 hb1 hg1 hat1))
                        go_roundg kq
                        case measure => omega
                        case rel => exact ⟨_, _, _, _, _, STF, HC2⟩
                      · cases hc
                    · rw [if_neg hp1] at hc
                      have dp : (p.f0 == 1) = false := by simp [hp1]
                      have HC2 := Aside0.mk hc
                      clear hc hq1 hp1
                      go_wp2_with (first | (go_at_call 69; (with_reducible refine (reader_kind.calls w.heap.size gy gly gty cy cBy Ay By ly ty _ Ry.out).mono ?_); rintro e w1 ⟨rfl, rfl⟩) | (go_at_call 69; (with_reducible refine (reader_kind.calls w.heap.size gx glx gtx cx cBx Ax Bx lx tx _ Rx.out).mono ?_); rintro e w1 ⟨rfl, rfl⟩) | (go_at_call 71; (with_reducible refine (reader_size.calls w.heap.size gx glx gtx cx cBx Ax Bx lx tx _ Rx.out HPx.out).mono ?_); rintro e w1 ⟨rfl, rfl⟩) | (go_at_call 71; (with_reducible refine (reader_size.calls w.heap.size gy gly gty cy cBy Ay By ly ty _ (Ry.out.below (below_drew1 (Below.refl _ _))) HPy.out).mono ?_); rintro e w1 ⟨rfl, rfl⟩) | (go_at_call 70; (with_reducible refine (reader_take.calls w.heap.size gx glx gtx cx cBx Ax Bx lx tx (min (sizeR lx tx) (sizeR ly ty)) w _ rfl (below_drew1 (below_drew1 ST.out.b)) (Rx.out.below (below_drew1 (below_drew1 (Below.refl _ _)))) p lx2 tx2 HTx.out).mono ?_); rintro e W1 ⟨rfl, tp⟩; have ST1 := Aside0.mk ((ST.out.below (below_drew1 (below_drew1 (Below.refl _ _)))).take HPx.out (takeR_len HTx.out).1 tp); clear tp; obtain ⟨gty3, cy3, cBy3, Ay3, By3, Ry3_⟩ := ST1.out.y; have Ry3 := Aside0.mk Ry3_; clear Ry3_) | (go_at_call 70; (with_reducible refine (reader_take.calls w.heap.size gy gly gty3 cy3 cBy3 Ay3 By3 ly ty (min (sizeR lx tx) (sizeR ly ty)) w _ rfl ST1.out.b Ry3.out q ly2 ty2 HTy.out).mono ?_); rintro e W2 ⟨rfl, tp⟩; have ST2 := Aside0.mk ((ST1.out.swap.take HPy.out (takeR_len HTy.out).1 tp).swap); have ST3 := Aside0.mk (ST2.out.below (below_alloc (below_alloc (Below.refl W2.heap.size W2) (.cells #[.int .i64 p.f0, .int .i64 p.f1, .string p.f2] 41)) (.cells #[.int .i64 q.f0, .int .i64 q.f1, .string q.f2] 41))); clear tp))
                      go_roundg kq
                      case measure => omega
                      case rel => exact ⟨_, _, _, _, _, ST3, HC2⟩
      · rw [if_neg hz] at hrest
        obtain ⟨rfl, rfl⟩ : [] = r1 ∧ 5 = r2 := by simpa using hrest
        have d1 : (n != m) = true := by simp [hz]
        clear hrest hz
        go_wp2_with (first | (go_at_call 22; (with_reducible refine (op_Out.calls k _ _ l0 n _ (HG.out.below HBW.out) (Kd.C_below HR0.out HBW.out) HC0.out HN.out).mono ?_); rintro e w1 ⟨rfl, hb⟩; have HB1 := Aside0.mk hb; clear hb) | (go_at_call 56; (with_reducible refine (op_In.calls k _ _ l1 m _ (HG.out.below (below_step HBW.out HB1.out)) (Kd.C_below HR1.out (below_step HBW.out HB1.out)) HC1.out HMM.out).mono ?_); rintro e w2 ⟨rfl, hb⟩; have HB2 := Aside0.mk hb; clear hb))
        rw [Exit.noGoto_ret]
        go_ret2
        exact ⟨_, rfl, Kd.R_nil _ _ _ _ _, below_step (below_step HBW.out HB1.out) HB2.out⟩
end Go.Proofs.YthhgobiaecehbaaDoor.F
end
section
namespace Go.Proofs.YthhgobiaecehbaaDoor.F
open Go.RowKit Go.Proofs.YthhgobiaecehbaaDoorW.PrintWords Go.Proofs.YthhgobiaecehbaaDoorW.PrintLast Go.Proofs.YthhgobiaecehbaaDoorW.PrintMore
set_option linter.unusedVariables false
set_option linter.unusedSimpArgs false
def fuseL (k : Nat) : List S41 → List (List S41) → Option (List S41 × Int)
  | x, [] => some (x, 0)
  | x, y :: r => (compose_Of.f k x y).bind fun z => if z.2 = 0 then fuseL k z.1 r else some ([], z.2)
theorem fuseL.mono (k : Nat) : ∀ (l : List (List S41)) (x : List S41), LeO (fuseL k x l) (fuseL (k + 1) x l)
  | [], x => LeO.refl _
  | y :: r, x => by
    rw [fuseL, fuseL]
    refine LeO.bind (compose_Of.mono _ _ _) (fun z => ?_)
    split
    · exact fuseL.mono k r _
    · exact LeO.refl _
def fuse_Of.f (k : Nat) (n : Int) (l : List (List S41)) : Option (List S41 × Int) := (op_Keep.f k n).bind fun x => if x.2 = 0 then fuseL k x.1 l else some ([], x.2)
theorem fuse_Of.mono (n : Int) (l : List (List S41)) (k : Nat) : LeO (fuse_Of.f k n l) (fuse_Of.f (k + 1) n l) := by
  unfold fuse_Of.f
  refine LeO.bind (op_Keep.mono _ _) (fun x => ?_)
  split
  · exact fuseL.mono k l _
  · exact LeO.refl _
theorem row_at {W : World} {A : Option Addr} {n : Nat} {l done rest : List (List S41)} {x : List S41} (h : Kd.C (Kd.slice 41 k41) W A n l) (e : l = done ++ x :: rest) (hn : done.length < n) : ∃ (ad : Addr) (A0 : Option Addr) (c0 : Nat), A = some ad ∧ W.cell? (ad.add done.length) = some (.slice A0 x.length c0) ∧ x.length ≤ c0 ∧ Kd.C k41 W A0 x.length x := by
  obtain ⟨ad, c, e1, _, hK, hc0⟩ := Kd.C_get h ([] : List S41) (done.length : Int) (by omega) (by omega)
  have hx : l.getD (done.length : Int).toNat ([] : List S41) = x := by rw [Int.toNat_natCast, List.getD_eq_getElem?_getD, e]; simp
  rw [hx] at hK
  have hc : ∀ j u, c[j]? = some u → W.cell? (ad.add ((done.length : Int).toNat * 1 + j)) = some u := hc0
  obtain ⟨A0, c0, rfl, l0, g0⟩ := hK
  exact ⟨ad, A0, c0, e1, by have hq := hc 0 _ rfl; rwa [Nat.mul_one, Nat.add_zero, Int.toNat_natCast] at hq, l0, g0⟩
set_option maxHeartbeats 8000000 in
set_option maxRecDepth 100000 in
theorem fuse_fold.calls (k base : Nat) (v0 : Value) (x0 : List S41) (A1 : Option Addr) (c1 : Nat) (l1 : List (List S41)) (r1 : List S41) (r2 : Int) (w : World) (hG : Glob w) (hbase : base ≤ w.heap.size) (ho : Kd.R k41 41 w base (fun _ => True) v0 x0) (hr1 : Kd.C (Kd.slice 41 k41) w A1 l1.length l1) (hc1 : l1.length ≤ c1) (h : fuseL k x0 l1 = some (r1, r2)) :
    Calls Tryd.prog 40 #[v0, .slice A1 l1.length c1, .func (.func 41) #[] #[]] w fun e w' => ∃ v0_ : Value, e = .returned (.tuple #[v0_, .int .i64 r2]) ∧ Kd.R k41 41 w' base (fun _ => True) v0_ r1 ∧ Below w.heap.size w w' := by
  have HG := Aside0.mk hG
  have HR1 := Aside0.mk hr1
  have HC1 := Aside0.mk hc1
  have HO := Aside0.mk ho
  have H := Aside0.mk h
  have HBS := Aside0.mk hbase
  have HM : Aside0 (l1.length ≤ 9223372036854775807) := ⟨hr1.2.1⟩
  clear hG hr1 hc1 ho h hbase
  go_enter Tryd.func40, Tryd.ntmps40
  go_wp2
  go_loopg [0, 15] l1.length (fun kq v0 v15 w' => ∃ (done rest : List (List S41)) (x : List S41), v15 = .int .i64 (done.length : Int) ∧ Aside0 (l1 = done ++ rest) ∧ Aside0 (kq = rest.length) ∧ Aside0 (Kd.R k41 41 w' base (fun _ => True) v0 x) ∧ Aside0 (fuseL k x rest = some (r1, r2)) ∧ Aside0 (Below w.heap.size w w'))
  case atStart => exact ⟨[], l1, x0, rfl, ⟨rfl⟩, ⟨rfl⟩, HO, H, ⟨Below.refl _ _⟩⟩
  case round =>
    clear HO H
    obtain ⟨done, rest, x, rfl, HL, HK, HO, H, HB⟩ := hrel
    have hdl : Aside0 (l1.length = done.length + rest.length) := ⟨by have := HL.out; rw [this]; simp⟩
    have hmx : (l1.length : Int) ≤ 9223372036854775807 := by have := HM.out; omega
    cases rest with
    | nil =>
      have hlt : decide ((done.length : Int) < (l1.length : Int)) = false := decide_eq_false (by have := hdl.out; simp at this; omega)
      have hlt2 : decide (done.length < l1.length) = false := decide_eq_false (by have := hdl.out; simp at this; omega)
      obtain ⟨rfl, rfl⟩ : x = r1 ∧ 0 = r2 := by simpa [fuseL] using H.out
      obtain ⟨A, c, rfl⟩ := Kd.R_slice HO.out
      clear hmx
      go_wp2
      (try rw [Exit.noGoto_ret])
      go_ret2
      exact ⟨_, rfl, HO.out, HB.out⟩
    | cons y rest =>
      have hlt : (done.length : Int) < (l1.length : Int) := by have := hdl.out; simp at this; omega
      obtain ⟨ad, Ay, cy, rfl, hcell, hly, hCy⟩ := row_at HR1.out HL.out (by omega)
      replace hcell := (HB.out.cell (World.block_lt_of_cell? w _ hcell)).trans hcell
      have HLY := Aside0.mk hly
      have HCY := Aside0.mk hCy
      obtain ⟨⟨z, ez⟩, hz, hrest⟩ := Option.bind_eq_some_iff.1 (show (compose_Of.f k x y).bind _ = _ from H.out)
      have HZ := Aside0.mk hz
      obtain ⟨A, c, rfl⟩ := Kd.R_slice HO.out
      obtain ⟨_, hcv, hC⟩ := Kd.R_reads' HO.out
      have HCV := Aside0.mk hcv
      have HCC := Aside0.mk hC
      clear hcv hC hly hCy hz
      by_cases h0 : ez = 0
      · subst h0
        have HR := Aside0.mk (show fuseL k z rest = some (r1, r2) by simpa using hrest)
        clear hrest
        go_wp2_with ((with_reducible refine gate_value (x := .tmp 20) rfl ?_); refine goesV_ (some 23) rfl rfl Tryd.func41 (by kernel_rfl) rfl #[.slice A x.length c, .slice Ay y.length cy] rfl rfl (by (try simp only [List.map_toArray, List.map_cons, List.map_nil]); first | done | rfl) ?_; (with_reducible refine (compose_Of.calls k A c x Ay cy y z 0 _ (HG.out.below HB.out) HCC.out HCV.out (Kd.C_below HCY.out HB.out) HLY.out HZ.out).mono ?_); rintro e w1 ⟨v1, rfl, ho1, hb1⟩; refine ⟨_, rfl, ?_⟩; have HO1 := Aside0.mk (R_low (Nat.le_trans HBS.out HB.out.size) ho1); have HB1 := Aside0.mk (below_step HB.out hb1); clear ho1 hb1)
        go_roundg rest.length
        case measure => have := HK.out; simp at this; omega
        case rel => exact ⟨done ++ [y], rest, z, by rw [List.length_append, List.length_singleton]; go_num, ⟨by rw [HL.out]; simp⟩, ⟨rfl⟩, HO1, HR, HB1⟩
      · obtain ⟨rfl, rfl⟩ : [] = r1 ∧ ez = r2 := by simpa [h0] using hrest
        have d1 : (ez != 0) = true := by simp [h0]
        clear hrest h0
        go_wp2_with ((with_reducible refine gate_value (x := .tmp 20) rfl ?_); refine goesV_ (some 23) rfl rfl Tryd.func41 (by kernel_rfl) rfl #[.slice A x.length c, .slice Ay y.length cy] rfl rfl (by (try simp only [List.map_toArray, List.map_cons, List.map_nil]); first | done | rfl) ?_; (with_reducible refine (compose_Of.calls k A c x Ay cy y z ez _ (HG.out.below HB.out) HCC.out HCV.out (Kd.C_below HCY.out HB.out) HLY.out HZ.out).mono ?_); rintro e w1 ⟨v1, rfl, ho1, hb1⟩; refine ⟨_, rfl, ?_⟩; have HB1 := Aside0.mk (below_step HB.out hb1); clear ho1 hb1)
        go_ret2
        exact ⟨_, rfl, Kd.R_nil _ _ _ _ _, HB1.out⟩
set_option maxHeartbeats 4000000 in
set_option maxRecDepth 100000 in
theorem fuse_Of.calls (k : Nat) (a0 : Int) (A1 : Option Addr) (c1 : Nat) (l1 : List (List S41)) (r1 : List S41) (r2 : Int) (w : World) (hG : Glob w) (hr1 : Kd.C (Kd.slice 41 k41) w A1 l1.length l1) (hc1 : l1.length ≤ c1) (h : fuse_Of.f k a0 l1 = some (r1, r2)) :
    Calls Tryd.prog 15 #[.int .i64 a0, .slice A1 l1.length c1] w fun e w' => ∃ v0_ : Value, e = .returned (.tuple #[v0_, .int .i64 r2]) ∧ Kd.R k41 41 w' w.heap.size (fun _ => True) v0_ r1 ∧ Below w.heap.size w w' := by
  have HG := Aside0.mk hG
  have HR1 := Aside0.mk hr1
  have HC1 := Aside0.mk hc1
  obtain ⟨⟨x, e0⟩, hx, h⟩ := Option.bind_eq_some_iff.1 h
  have HX := Aside0.mk hx
  clear hG hr1 hc1 hx
  by_cases h0 : e0 = 0
  · subst h0
    have H := Aside0.mk (show fuseL k x l1 = some (r1, r2) by simpa using h)
    clear h
    go_enter Tryd.func15, Tryd.ntmps15
    go_wp2_with (first | (go_at_call 24; (with_reducible refine (op_Keep.calls k a0 x 0 _ HX.out).mono ?_); rintro e w1 ⟨v1, rfl, ho, hb⟩; have HO := Aside0.mk ho; have HB := Aside0.mk hb; clear ho hb) | (go_at_call 40; (with_reducible refine (fuse_fold.calls k w.heap.size v1 x A1 c1 l1 r1 r2 w1 (HG.out.below HB.out) HB.out.size HO.out (Kd.C_below HR1.out HB.out) HC1.out H.out).mono ?_); rintro e w2 ⟨v2, rfl, ho2, hb2⟩; have HO2 := Aside0.mk ho2; have HB2 := Aside0.mk (below_step HB.out hb2); clear ho2 hb2))
    go_ret2
    exact ⟨_, rfl, HO2.out, HB2.out⟩
  · obtain ⟨rfl, rfl⟩ : [] = r1 ∧ e0 = r2 := by simpa [h0] using h
    have d1 : (e0 != 0) = true := by simp [h0]
    clear h h0
    go_enter Tryd.func15, Tryd.ntmps15
    go_wp2_with (go_at_call 24; (with_reducible refine (op_Keep.calls k a0 x e0 _ HX.out).mono ?_); rintro e w1 ⟨v1, rfl, ho, hb⟩; have HB := Aside0.mk hb; clear ho hb)
    go_ret2
    exact ⟨_, rfl, Kd.R_nil _ _ _ _ _, HB.out⟩
end Go.Proofs.YthhgobiaecehbaaDoor.F
end
section
namespace Go.Proofs.YthhgobiaecehbaaDoor.F
open Go.RowKit Go.Proofs.YthhgobiaecehbaaDoorW.PrintWords Go.Proofs.YthhgobiaecehbaaDoorW.PrintLast Go.Proofs.YthhgobiaecehbaaDoorW.PrintMore
attribute [local go_sem] max2_int min2_int max_two min_two max_three min_three max_four min_four cell_setCell_isSome
set_option linter.unusedVariables false
set_option linter.unusedSimpArgs false
attribute [local go_sem high] eqA41
def epitomelaw10_shown.f (k : Nat)  : Option (Bool) := (fuse_Of.f k 1 (([(([(⟨2, 0, (⟨#[97]⟩ : ByteArray)⟩ : S41), (⟨1, 1, (⟨#[]⟩ : ByteArray)⟩ : S41)] : List (S41))), (([(⟨3, 1, (⟨#[]⟩ : ByteArray)⟩ : S41), (⟨1, 1, (⟨#[]⟩ : ByteArray)⟩ : S41)] : List (S41)))] : List (List (S41))))).bind fun bt110 => ((fuse_Chain.f k 3 ([] : List (List (S41)))).bind fun bt114 => (if bt110.2 = 0 then (if (bt110.1.length : Int) = 1 then (if 0 < (bt110.1.length : Int) then (if (((rd_T41 bt110.1 0).f0) == 1 && (((rd_T41 bt110.1 0).f1) == 1 && ((((rd_T41 bt110.1 0).f2).toList) == ([] : List UInt8)))) = true then (if bt114.1 = 3 then (some (bt114.2 == 0)) else (some false)) else (some false)) else (none)) else (some false)) else (some false)))
theorem epitomelaw10_shown.mono : ∀ k, LeO (epitomelaw10_shown.f k ) (epitomelaw10_shown.f (k + 1) ) := by
  intro  k
  unfold epitomelaw10_shown.f
  repeat' first
      | (with_reducible exact fuse_Chain.mono _ _ _)
      | (with_reducible exact fuse_Of.mono _ _ _)
      | (with_reducible exact LeO.refl _)
      | (with_reducible exact LeO.none _)
      | (with_reducible refine LeO.ite ?_ ?_)
      | (with_reducible refine LeO.bind ?_ (fun _ => ?_))
      | exact fuse_Chain.mono _ _ _
      | exact fuse_Of.mono _ _ _
      | exact LeO.none _
      | refine LeO.ite ?_ ?_
      | refine LeO.bind ?_ (fun _ => ?_)
set_option maxHeartbeats 8000000 in
set_option maxRecDepth 100000 in
theorem epitomelaw10_shown.calls (k : Nat)  (r : Bool) (w : World) (hG : Glob w) (h : epitomelaw10_shown.f k  = some r) :
    Calls Tryd.prog 14 #[] w fun e w' => e = .returned (.bool r) ∧ Below w.heap.size w w' := by
  have hu41 := Tryd.underlying41
  have HG := Aside0.mk hG
  clear hG
  have HB := Aside0.mk (Below.refl w.heap.size w)
  have H : ((fuse_Of.f k 1 (([(([(⟨2, 0, (⟨#[97]⟩ : ByteArray)⟩ : S41), (⟨1, 1, (⟨#[]⟩ : ByteArray)⟩ : S41)] : List (S41))), (([(⟨3, 1, (⟨#[]⟩ : ByteArray)⟩ : S41), (⟨1, 1, (⟨#[]⟩ : ByteArray)⟩ : S41)] : List (S41)))] : List (List (S41))))).bind fun bt110 => ((fuse_Chain.f k 3 ([] : List (List (S41)))).bind fun bt114 => (if bt110.2 = 0 then (if (bt110.1.length : Int) = 1 then (if 0 < (bt110.1.length : Int) then (if (((rd_T41 bt110.1 0).f0) == 1 && (((rd_T41 bt110.1 0).f1) == 1 && ((((rd_T41 bt110.1 0).f2).toList) == ([] : List UInt8)))) = true then (if bt114.1 = 3 then (some (bt114.2 == 0)) else (some false)) else (some false)) else (none)) else (some false)) else (some false)))) = some r := h
  clear h
  obtain ⟨y101, hy101⟩ : ∃ y_ : List (S41), y_ = (([(⟨2, 0, (⟨#[97]⟩ : ByteArray)⟩ : S41), (⟨1, 1, (⟨#[]⟩ : ByteArray)⟩ : S41)] : List (S41))) := ⟨_, rfl⟩
  replace H : ((fuse_Of.f k 1 (([y101, (([(⟨3, 1, (⟨#[]⟩ : ByteArray)⟩ : S41), (⟨1, 1, (⟨#[]⟩ : ByteArray)⟩ : S41)] : List (S41)))] : List (List (S41))))).bind fun bt110 => ((fuse_Chain.f k 3 ([] : List (List (S41)))).bind fun bt114 => (if bt110.2 = 0 then (if (bt110.1.length : Int) = 1 then (if 0 < (bt110.1.length : Int) then (if (((rd_T41 bt110.1 0).f0) == 1 && (((rd_T41 bt110.1 0).f1) == 1 && ((((rd_T41 bt110.1 0).f2).toList) == ([] : List UInt8)))) = true then (if bt114.1 = 3 then (some (bt114.2 == 0)) else (some false)) else (some false)) else (none)) else (some false)) else (some false)))) = some r := by first | (rw [hy101]; with_reducible exact H) | (have H2_ := (Option.bind_some _ _).symm.trans H; rw [hy101]; with_reducible exact H2_) | (have H2_ := (Option.bind_some _ _).symm.trans H; with_reducible exact H2_) | with_reducible exact H | (rw [hy101]; exact H) | exact H
  have Ny101 := Aside0.mk hy101
  clear hy101
  obtain ⟨y104, hy104⟩ : ∃ y_ : List (S41), y_ = (([(⟨3, 1, (⟨#[]⟩ : ByteArray)⟩ : S41), (⟨1, 1, (⟨#[]⟩ : ByteArray)⟩ : S41)] : List (S41))) := ⟨_, rfl⟩
  replace H : ((fuse_Of.f k 1 (([y101, y104] : List (List (S41))))).bind fun bt110 => ((fuse_Chain.f k 3 ([] : List (List (S41)))).bind fun bt114 => (if bt110.2 = 0 then (if (bt110.1.length : Int) = 1 then (if 0 < (bt110.1.length : Int) then (if (((rd_T41 bt110.1 0).f0) == 1 && (((rd_T41 bt110.1 0).f1) == 1 && ((((rd_T41 bt110.1 0).f2).toList) == ([] : List UInt8)))) = true then (if bt114.1 = 3 then (some (bt114.2 == 0)) else (some false)) else (some false)) else (none)) else (some false)) else (some false)))) = some r := by first | (rw [hy104]; with_reducible exact H) | (have H2_ := (Option.bind_some _ _).symm.trans H; rw [hy104]; with_reducible exact H2_) | (have H2_ := (Option.bind_some _ _).symm.trans H; with_reducible exact H2_) | with_reducible exact H | (rw [hy104]; exact H) | exact H
  have Ny104 := Aside0.mk hy104
  clear hy104
  obtain ⟨y107, hy107⟩ : ∃ y_ : List (List (S41)), y_ = (([y101, y104] : List (List (S41)))) := ⟨_, rfl⟩
  replace H : ((fuse_Of.f k 1 y107).bind fun bt110 => ((fuse_Chain.f k 3 ([] : List (List (S41)))).bind fun bt114 => (if bt110.2 = 0 then (if (bt110.1.length : Int) = 1 then (if 0 < (bt110.1.length : Int) then (if (((rd_T41 bt110.1 0).f0) == 1 && (((rd_T41 bt110.1 0).f1) == 1 && ((((rd_T41 bt110.1 0).f2).toList) == ([] : List UInt8)))) = true then (if bt114.1 = 3 then (some (bt114.2 == 0)) else (some false)) else (some false)) else (none)) else (some false)) else (some false)))) = some r := by first | (rw [hy107]; with_reducible exact H) | (have H2_ := (Option.bind_some _ _).symm.trans H; rw [hy107]; with_reducible exact H2_) | (have H2_ := (Option.bind_some _ _).symm.trans H; with_reducible exact H2_) | with_reducible exact H | (rw [hy107]; exact H) | exact H
  have Ny107 := Aside0.mk hy107
  clear hy107
  replace H := Option.bind_eq_some_iff.mp H
  obtain ⟨⟨t110, t111⟩, A10, H⟩ := H
  replace H : ((fuse_Chain.f k 3 ([] : List (List (S41)))).bind fun bt114 => (if t111 = 0 then (if (t110.length : Int) = 1 then (if 0 < (t110.length : Int) then (if (((rd_T41 t110 0).f0) == 1 && (((rd_T41 t110 0).f1) == 1 && ((((rd_T41 t110 0).f2).toList) == ([] : List UInt8)))) = true then (if bt114.1 = 3 then (some (bt114.2 == 0)) else (some false)) else (some false)) else (none)) else (some false)) else (some false))) = some r := H
  have A1 := Aside0.mk A10
  clear A10
  replace H := Option.bind_eq_some_iff.mp H
  obtain ⟨⟨t114, t115⟩, A20, H⟩ := H
  replace H : (if t111 = 0 then (if (t110.length : Int) = 1 then (if 0 < (t110.length : Int) then (if (((rd_T41 t110 0).f0) == 1 && (((rd_T41 t110 0).f1) == 1 && ((((rd_T41 t110 0).f2).toList) == ([] : List UInt8)))) = true then (if t114 = 3 then (some (t115 == 0)) else (some false)) else (some false)) else (none)) else (some false)) else (some false)) = some r := H
  have A2 := Aside0.mk A20
  clear A20
  by_cases c3 : t111 = 0
  · rw [if_pos c3] at H
    have c3b0 : (t111 == 0) = true := beq_iff_eq.mpr c3
    have c3b1 : (t111 != 0) = false := bne_eq_false_iff_eq.mpr c3
    clear c3
    by_cases c4 : (t110.length : Int) = 1
    · rw [if_pos c4] at H
      have c4b0 : ((t110.length : Int) == 1) = true := beq_iff_eq.mpr c4
      have c4b1 : ((t110.length : Int) != 1) = false := bne_eq_false_iff_eq.mpr c4
      clear c4
      by_cases c5 : 0 < (t110.length : Int)
      · rw [if_pos c5] at H
        have c5b0 : decide (0 < (t110.length : Int)) = true := decide_eq_true c5
        have c5b1 : decide (0 < t110.length) = true := decide_eq_true (by omega)
        clear c5
        by_cases c6 : (((rd_T41 t110 0).f0) == 1 && (((rd_T41 t110 0).f1) == 1 && ((((rd_T41 t110 0).f2).toList) == ([] : List UInt8)))) = true
        · rw [if_pos c6] at H
          have c6b0 : (((rd_T41 t110 0).f0) == 1 && (((rd_T41 t110 0).f1) == 1 && ((((rd_T41 t110 0).f2).toList) == ([] : List UInt8)))) = true := c6
          (try (have c6b0e : (((rd_T41 t110 0).f0) == 1 && (((rd_T41 t110 0).f1) == 1 && ((((rd_T41 t110 0).f2).toList).isEmpty))) = true := by simpa using c6b0))
          (try (have c6b1 : decide (((rd_T41 t110 0).f0) = 1 && (((rd_T41 t110 0).f1) == 1 && ((((rd_T41 t110 0).f2).toList) == ([] : List UInt8)))) = true := by simpa using c6))
          (try (have c6b2 : (((rd_T41 t110 0).f0) == 1 && (((rd_T41 t110 0).f1) == 1 && ((((rd_T41 t110 0).f2).toList) == ([] : List UInt8)))) = true := by simpa using c6))
          (try (have c6b3 : ((rd_T41 t110 0).f0) = true := eqb_l (a := ((rd_T41 t110 0).f0)) (b := 1 && (((rd_T41 t110 0).f1) == 1 && ((((rd_T41 t110 0).f2).toList) == ([] : List UInt8)))) (v := true) (by first | exact c6 | simpa using c6) (by assumption)))
          (try (have c6b4 : ((rd_T41 t110 0).f0) = false := eqb_l (a := ((rd_T41 t110 0).f0)) (b := 1 && (((rd_T41 t110 0).f1) == 1 && ((((rd_T41 t110 0).f2).toList) == ([] : List UInt8)))) (v := false) (by first | exact c6 | simpa using c6) (by assumption)))
          (try (have c6b5 : 1 && (((rd_T41 t110 0).f1) == 1 && ((((rd_T41 t110 0).f2).toList) == ([] : List UInt8))) = true := eqb_r (a := ((rd_T41 t110 0).f0)) (b := 1 && (((rd_T41 t110 0).f1) == 1 && ((((rd_T41 t110 0).f2).toList) == ([] : List UInt8)))) (v := true) (by first | exact c6 | simpa using c6) (by assumption)))
          (try (have c6b6 : 1 && (((rd_T41 t110 0).f1) == 1 && ((((rd_T41 t110 0).f2).toList) == ([] : List UInt8))) = false := eqb_r (a := ((rd_T41 t110 0).f0)) (b := 1 && (((rd_T41 t110 0).f1) == 1 && ((((rd_T41 t110 0).f2).toList) == ([] : List UInt8)))) (v := false) (by first | exact c6 | simpa using c6) (by assumption)))
          clear c6
          by_cases c7 : t114 = 3
          · rw [if_pos c7] at H
            have c7b0 : (t114 == 3) = true := beq_iff_eq.mpr c7
            have c7b1 : (t114 != 3) = false := bne_eq_false_iff_eq.mpr c7
            clear c7
            obtain rfl := Option.some.inj H
            go_enter Tryd.func14, Tryd.ntmps14
            go_wp2_with (first | ((with_reducible refine gate_dst (N := 8) rfl ?_); (try (refine gate_guard (by rfl) ?_; dsimp only)); refine Kd.R_lit k41 _ 41 ?hg (N := 8) ?hd (xs := ([(⟨2, 0, (⟨#[97]⟩ : ByteArray)⟩ : S41), (⟨1, 1, (⟨#[]⟩ : ByteArray)⟩ : S41)] : List (S41))) (inner := [.int .i64 2, .int .i64 0, .string (⟨#[97]⟩ : ByteArray), .int .i64 1, .int .i64 1, .string (⟨#[]⟩ : ByteArray)]) (ok := fun _ => True) (okp := fun _ => True) ?hr ?hp (fun _ hk => hk) trivial (Below.refl _ _) (Nat.le_refl _) (by simp) ?_; (case hd => rfl); (case hg => rfl); (case hr => first | (go_simp; done) | (go_simp; rfl)); (case hp => exact (Reps.c3 (show Kd.M k41 _ _ _ (⟨2, 0, (⟨#[97]⟩ : ByteArray)⟩ : S41) [.int .i64 2, .int .i64 0, .string (⟨#[97]⟩ : ByteArray)] from (k41_mkM _ _ _ (⟨2, 0, (⟨#[97]⟩ : ByteArray)⟩ : S41) )) (Reps.c3 (show Kd.M k41 _ _ _ (⟨1, 1, (⟨#[]⟩ : ByteArray)⟩ : S41) [.int .i64 1, .int .i64 1, .string (⟨#[]⟩ : ByteArray)] from (k41_mkM _ _ _ (⟨1, 1, (⟨#[]⟩ : ByteArray)⟩ : S41) )) (Reps.none _ _)))); intro v102 w8 ho9 hb hg_ hnew_; clear hg_ hnew_; (first | rw [← Ny101.out] at ho9 | (simp only [Int.reduceToNat] at ho9; rw [← Ny101.out] at ho9)); have n0_ := Aside0.mk (Kd.R_lower ho9 (below_size (by repeat (first | (with_reducible first | exact HB.out | apply below_alloc | apply pw_below_drewN | apply below_drew1) | exact HB.out)))); have n1_ := Aside0.mk (below_step (by repeat (first | (with_reducible first | exact HB.out | apply below_alloc | apply pw_below_drewN | apply below_drew1) | exact HB.out)) hb); clear HB; have HO103 := n0_; have HB := n1_; clear n0_ n1_; clear hb ho9) | ((with_reducible refine gate_dst (N := 11) rfl ?_); (try (refine gate_guard (by rfl) ?_; dsimp only)); refine Kd.R_lit k41 _ 41 ?hg (N := 11) ?hd (xs := ([(⟨3, 1, (⟨#[]⟩ : ByteArray)⟩ : S41), (⟨1, 1, (⟨#[]⟩ : ByteArray)⟩ : S41)] : List (S41))) (inner := [.int .i64 3, .int .i64 1, .string (⟨#[]⟩ : ByteArray), .int .i64 1, .int .i64 1, .string (⟨#[]⟩ : ByteArray)]) (ok := fun _ => True) (okp := fun _ => True) ?hr ?hp (fun _ hk => hk) trivial (Below.refl _ _) (Nat.le_refl _) (by simp) ?_; (case hd => rfl); (case hg => rfl); (case hr => first | (go_simp; done) | (go_simp; rfl)); (case hp => exact (Reps.c3 (show Kd.M k41 _ _ _ (⟨3, 1, (⟨#[]⟩ : ByteArray)⟩ : S41) [.int .i64 3, .int .i64 1, .string (⟨#[]⟩ : ByteArray)] from (k41_mkM _ _ _ (⟨3, 1, (⟨#[]⟩ : ByteArray)⟩ : S41) )) (Reps.c3 (show Kd.M k41 _ _ _ (⟨1, 1, (⟨#[]⟩ : ByteArray)⟩ : S41) [.int .i64 1, .int .i64 1, .string (⟨#[]⟩ : ByteArray)] from (k41_mkM _ _ _ (⟨1, 1, (⟨#[]⟩ : ByteArray)⟩ : S41) )) (Reps.none _ _)))); intro v105 w10 ho11 hb hg_ hnew_; clear hg_ hnew_; (first | rw [← Ny104.out] at ho11 | (simp only [Int.reduceToNat] at ho11; rw [← Ny104.out] at ho11)); have n0_ := Aside0.mk (Kd.R_elder' (by (with_reducible repeat (first | apply Kd.R_alloc | apply Kd.R_drewN | apply Kd.R_drew)); exact HO103.out) (Kd.R_base ho11) hb); have n1_ := Aside0.mk (Kd.R_lower (Kd.R_new' ho11 (Kd.R_lt (by (with_reducible repeat (first | apply Kd.R_alloc | apply Kd.R_drewN | apply Kd.R_drew)); exact HO103.out))) (below_size (by repeat (first | (with_reducible first | exact HB.out | apply below_alloc | apply pw_below_drewN | apply below_drew1) | exact HB.out)))); have n2_ := Aside0.mk (below_step (by repeat (first | (with_reducible first | exact HB.out | apply below_alloc | apply pw_below_drewN | apply below_drew1) | exact HB.out)) hb); clear HO103; clear HB; have HO103 := n0_; have HO106 := n1_; have HB := n2_; clear n0_ n1_ n2_; clear hb ho11; obtain ⟨Ao12, co12, eo12⟩ := Kd.R_slice HO103.out; subst eo12; obtain ⟨Ao13, co13, eo13⟩ := Kd.R_slice HO106.out; subst eo13) | ((with_reducible refine gate_dst (N := 12) rfl ?_); (try (refine gate_guard (by rfl) ?_; dsimp only)); refine Kd.N_lit (Kd.slice 41 k41) _ 24 ?hg (N' := 12) ?hd (xs := ([y101, y104] : List (List (S41)))) (inner := [.slice Ao12 y101.length co12, .slice Ao13 y104.length co13]) (ok := (fun _ => True)) (okp := (fun _ => True)) ?hr ?hp (fun _ hk => hk) ((show ∀ k_, w10.heap.size ≤ k_ → (fun _ => True) k_ from fun k_ hk => trivial) _ (Nat.le_refl _)) (Below.refl _ _) (Nat.le_refl _) (by simp) ?_; (case hd => rfl); (case hg => rfl); (case hr => first | (go_simp; done) | (go_simp; rfl)); (case hp => exact (Reps.one (show Kd.FK (Kd.slice 41 k41) _ _ y101 [.slice Ao12 y101.length co12] from (Kd.FK_slice_mk (Kd.R_reads' (Kd.R_mono (ok' := (fun _ => True)) (HO103.out) (fun k_ hk => trivial))).2.1 (Kd.R_F (Kd.R_mono (ok' := (fun _ => True)) (HO103.out) (fun k_ hk => trivial))))) (Reps.one (show Kd.FK (Kd.slice 41 k41) _ _ y104 [.slice Ao13 y104.length co13] from (Kd.FK_slice_mk (Kd.R_reads' (Kd.R_mono (ok' := (fun _ => True)) (HO106.out) (fun k_ hk => trivial))).2.1 (Kd.R_F (Kd.R_mono (ok' := (fun _ => True)) (HO106.out) (fun k_ hk => trivial))))) (Reps.none _ _)))); intro v108 w14 ho15 hb hg_ hnew_; clear hg_ hnew_; (first | rw [← Ny107.out] at ho15 | (simp only [Int.reduceToNat] at ho15; rw [← Ny107.out] at ho15)); have n0_ := Aside0.mk (Kd.N_lower ho15 (below_size (by repeat (first | (with_reducible first | exact HB.out | apply below_alloc | apply pw_below_drewN | apply below_drew1) | exact HB.out)))); have n1_ := Aside0.mk (below_step (by repeat (first | (with_reducible first | exact HB.out | apply below_alloc | apply pw_below_drewN | apply below_drew1) | exact HB.out)) hb); clear HB; clear HO103; clear HO106; have HO109 := n0_; have HB := n1_; clear n0_ n1_; clear hb ho15; obtain ⟨Ao16, co16, eo16⟩ := Kd.N_slice HO109.out; subst eo16) | ((with_reducible refine gate_callee (f := 15) rfl ?_); refine goesL_ (some 13) rfl rfl Tryd.func15 (by kernel_rfl) rfl #[.int .i64 1, .slice Ao16 y107.length co16] rfl (by (try simp only [List.map_toArray, List.map_cons, List.map_nil]); first | done | rfl | (simp only [List.length_drop, List.length_take]; rfl)) ?_; (with_reducible refine (fuse_Of.calls k 1 _ _ y107 t110 t111 _ ?side1 ?side2 ?side3 A1.out).mono ?_); (case side1 => first | (with_reducible exact HG.out) | exact Glob.below HG.out (by repeat (first | (with_reducible first | exact HB.out | apply below_alloc | apply pw_below_drewN | apply below_drew1) | exact HB.out)) | exact Glob.drawn HG.out (by repeat (first | exact Drawn0.refl _ | apply Drawn0.step))); (case side2 => repeat (first | exact (Kd.N_reads' HO109.out).2.2 | (with_reducible refine Kd.C_alloc ?_ _) | (with_reducible refine Kd.C_drewN ?_ _) | (with_reducible refine Kd.C_drew ?_))); (case side3 => exact (Kd.N_reads' HO109.out).2.1); rintro e w17 ⟨v112, rfl, ho0, hb⟩; refine ⟨_, rfl, ?_⟩; have n0_ := Aside0.mk (Kd.N_elder' (by (with_reducible repeat (first | apply Kd.N_alloc | apply Kd.N_drewN | apply Kd.N_drew)); exact HO109.out) (Kd.R_base ho0) hb); have n1_ := Aside0.mk (Kd.R_lower ho0 (below_size (by repeat (first | (with_reducible first | exact HB.out | apply below_alloc | apply pw_below_drewN | apply below_drew1) | exact HB.out)))); have n2_ := Aside0.mk (below_step (by repeat (first | (with_reducible first | exact HB.out | apply below_alloc | apply pw_below_drewN | apply below_drew1) | exact HB.out)) hb); clear HO109; clear HB; have HO109 := n0_; have HO113 := n1_; have HB := n2_; clear n0_ n1_ n2_; (try clear hb); (try clear hb2); (try clear hk); (try clear hi); (try clear ho0)) | ((with_reducible refine gate_callee (f := 18) rfl ?_); refine goesL_ (some 17) rfl rfl Tryd.func18 (by kernel_rfl) rfl #[.int .i64 3, .slice none 0 0] rfl (by (try simp only [List.map_toArray, List.map_cons, List.map_nil]); first | done | rfl | (simp only [List.length_drop, List.length_take]; rfl)) ?_; (refine (fuse_Chain.calls k 3 _ _ ([] : List (List (S41))) t114 t115 _ ?side1 ?side2 ?side3 A2.out).mono ?_); (case side1 => first | (with_reducible exact HG.out) | exact Glob.below HG.out (by repeat (first | (with_reducible first | exact HB.out | apply below_alloc | apply pw_below_drewN | apply below_drew1) | exact HB.out)) | exact Glob.drawn HG.out (by repeat (first | exact Drawn0.refl _ | apply Drawn0.step))); (case side2 => exact Kd.C_nil _ _); (case side3 => exact Nat.le_refl _); rintro e w18 ⟨rfl, hb⟩; refine ⟨_, rfl, ?_⟩; have n0_ := Aside0.mk (Kd.N_below (by (with_reducible repeat (first | apply Kd.N_alloc | apply Kd.N_drewN | apply Kd.N_drew)); exact HO109.out) hb); have n1_ := Aside0.mk (Kd.R_below (by (with_reducible repeat (first | apply Kd.R_alloc | apply Kd.R_drewN | apply Kd.R_drew)); exact HO113.out) hb); have n2_ := Aside0.mk (below_step (by repeat (first | (with_reducible first | exact HB.out | apply below_alloc | apply pw_below_drewN | apply below_drew1) | exact HB.out)) hb); clear HO109; clear HO113; clear HB; have HO109 := n0_; have HO113 := n1_; have HB := n2_; clear n0_ n1_ n2_; (try clear hb); (try clear hb2); (try clear hk); (try clear hi); obtain ⟨Ao19, co19, eo19⟩ := Kd.R_slice HO113.out; subst eo19; have p116 : 0 ≤ (0 : Int) := (by omega); have q116 : 0 < (t110.length : Int) := of_decide_eq_true (by first | (with_reducible assumption) | assumption); obtain ⟨ad116, e116, hx116_0, hx116_1, hx116_2⟩ := at_T41 (Kd.R_reads' HO113.out).2.2 0 p116 q116; cases e116; have qi116 : (0 < t110.length) = True := eq_true (by omega); (try rw [show ((0 : Int)).toNat = 0 from rfl] at hx116_0); (try rw [show 0 * 3 = 0 from rfl] at hx116_0); (try rw [Addr.add_zero'] at hx116_0); (try rw [show ((0 : Int)).toNat = 0 from rfl] at hx116_1); (try rw [show 0 * 3 = 0 from rfl] at hx116_1); (try rw [Addr.add_zero'] at hx116_1); (try rw [show ((0 : Int)).toNat = 0 from rfl] at hx116_2); (try rw [show 0 * 3 = 0 from rfl] at hx116_2); (try rw [Addr.add_zero'] at hx116_2); replace p116 := eq_true p116; replace q116 := eq_true q116))
            go_ret
            exact ⟨by first | rfl | (simp [errW_none, errW_some] <;> rfl) | (simp [*, errW_none, errW_some] <;> rfl), by repeat (first | (with_reducible first | exact HB.out | apply below_alloc | apply pw_below_drewN | apply below_drew1) | exact HB.out)⟩
          · rw [if_neg c7] at H
            have c7b0 : (t114 == 3) = false := beq_eq_false_iff_ne.mpr c7
            have c7b1 : (t114 != 3) = true := bne_iff_ne.mpr c7
            obtain rfl := Option.some.inj H
            go_enter Tryd.func14, Tryd.ntmps14
            go_wp2_with (first | ((with_reducible refine gate_dst (N := 8) rfl ?_); (try (refine gate_guard (by rfl) ?_; dsimp only)); refine Kd.R_lit k41 _ 41 ?hg (N := 8) ?hd (xs := ([(⟨2, 0, (⟨#[97]⟩ : ByteArray)⟩ : S41), (⟨1, 1, (⟨#[]⟩ : ByteArray)⟩ : S41)] : List (S41))) (inner := [.int .i64 2, .int .i64 0, .string (⟨#[97]⟩ : ByteArray), .int .i64 1, .int .i64 1, .string (⟨#[]⟩ : ByteArray)]) (ok := fun _ => True) (okp := fun _ => True) ?hr ?hp (fun _ hk => hk) trivial (Below.refl _ _) (Nat.le_refl _) (by simp) ?_; (case hd => rfl); (case hg => rfl); (case hr => first | (go_simp; done) | (go_simp; rfl)); (case hp => exact (Reps.c3 (show Kd.M k41 _ _ _ (⟨2, 0, (⟨#[97]⟩ : ByteArray)⟩ : S41) [.int .i64 2, .int .i64 0, .string (⟨#[97]⟩ : ByteArray)] from (k41_mkM _ _ _ (⟨2, 0, (⟨#[97]⟩ : ByteArray)⟩ : S41) )) (Reps.c3 (show Kd.M k41 _ _ _ (⟨1, 1, (⟨#[]⟩ : ByteArray)⟩ : S41) [.int .i64 1, .int .i64 1, .string (⟨#[]⟩ : ByteArray)] from (k41_mkM _ _ _ (⟨1, 1, (⟨#[]⟩ : ByteArray)⟩ : S41) )) (Reps.none _ _)))); intro v102 w20 ho21 hb hg_ hnew_; clear hg_ hnew_; (first | rw [← Ny101.out] at ho21 | (simp only [Int.reduceToNat] at ho21; rw [← Ny101.out] at ho21)); have n0_ := Aside0.mk (Kd.R_lower ho21 (below_size (by repeat (first | (with_reducible first | exact HB.out | apply below_alloc | apply pw_below_drewN | apply below_drew1) | exact HB.out)))); have n1_ := Aside0.mk (below_step (by repeat (first | (with_reducible first | exact HB.out | apply below_alloc | apply pw_below_drewN | apply below_drew1) | exact HB.out)) hb); clear HB; have HO103 := n0_; have HB := n1_; clear n0_ n1_; clear hb ho21) | ((with_reducible refine gate_dst (N := 11) rfl ?_); (try (refine gate_guard (by rfl) ?_; dsimp only)); refine Kd.R_lit k41 _ 41 ?hg (N := 11) ?hd (xs := ([(⟨3, 1, (⟨#[]⟩ : ByteArray)⟩ : S41), (⟨1, 1, (⟨#[]⟩ : ByteArray)⟩ : S41)] : List (S41))) (inner := [.int .i64 3, .int .i64 1, .string (⟨#[]⟩ : ByteArray), .int .i64 1, .int .i64 1, .string (⟨#[]⟩ : ByteArray)]) (ok := fun _ => True) (okp := fun _ => True) ?hr ?hp (fun _ hk => hk) trivial (Below.refl _ _) (Nat.le_refl _) (by simp) ?_; (case hd => rfl); (case hg => rfl); (case hr => first | (go_simp; done) | (go_simp; rfl)); (case hp => exact (Reps.c3 (show Kd.M k41 _ _ _ (⟨3, 1, (⟨#[]⟩ : ByteArray)⟩ : S41) [.int .i64 3, .int .i64 1, .string (⟨#[]⟩ : ByteArray)] from (k41_mkM _ _ _ (⟨3, 1, (⟨#[]⟩ : ByteArray)⟩ : S41) )) (Reps.c3 (show Kd.M k41 _ _ _ (⟨1, 1, (⟨#[]⟩ : ByteArray)⟩ : S41) [.int .i64 1, .int .i64 1, .string (⟨#[]⟩ : ByteArray)] from (k41_mkM _ _ _ (⟨1, 1, (⟨#[]⟩ : ByteArray)⟩ : S41) )) (Reps.none _ _)))); intro v105 w22 ho23 hb hg_ hnew_; clear hg_ hnew_; (first | rw [← Ny104.out] at ho23 | (simp only [Int.reduceToNat] at ho23; rw [← Ny104.out] at ho23)); have n0_ := Aside0.mk (Kd.R_elder' (by (with_reducible repeat (first | apply Kd.R_alloc | apply Kd.R_drewN | apply Kd.R_drew)); exact HO103.out) (Kd.R_base ho23) hb); have n1_ := Aside0.mk (Kd.R_lower (Kd.R_new' ho23 (Kd.R_lt (by (with_reducible repeat (first | apply Kd.R_alloc | apply Kd.R_drewN | apply Kd.R_drew)); exact HO103.out))) (below_size (by repeat (first | (with_reducible first | exact HB.out | apply below_alloc | apply pw_below_drewN | apply below_drew1) | exact HB.out)))); have n2_ := Aside0.mk (below_step (by repeat (first | (with_reducible first | exact HB.out | apply below_alloc | apply pw_below_drewN | apply below_drew1) | exact HB.out)) hb); clear HO103; clear HB; have HO103 := n0_; have HO106 := n1_; have HB := n2_; clear n0_ n1_ n2_; clear hb ho23; obtain ⟨Ao24, co24, eo24⟩ := Kd.R_slice HO103.out; subst eo24; obtain ⟨Ao25, co25, eo25⟩ := Kd.R_slice HO106.out; subst eo25) | ((with_reducible refine gate_dst (N := 12) rfl ?_); (try (refine gate_guard (by rfl) ?_; dsimp only)); refine Kd.N_lit (Kd.slice 41 k41) _ 24 ?hg (N' := 12) ?hd (xs := ([y101, y104] : List (List (S41)))) (inner := [.slice Ao24 y101.length co24, .slice Ao25 y104.length co25]) (ok := (fun _ => True)) (okp := (fun _ => True)) ?hr ?hp (fun _ hk => hk) ((show ∀ k_, w22.heap.size ≤ k_ → (fun _ => True) k_ from fun k_ hk => trivial) _ (Nat.le_refl _)) (Below.refl _ _) (Nat.le_refl _) (by simp) ?_; (case hd => rfl); (case hg => rfl); (case hr => first | (go_simp; done) | (go_simp; rfl)); (case hp => exact (Reps.one (show Kd.FK (Kd.slice 41 k41) _ _ y101 [.slice Ao24 y101.length co24] from (Kd.FK_slice_mk (Kd.R_reads' (Kd.R_mono (ok' := (fun _ => True)) (HO103.out) (fun k_ hk => trivial))).2.1 (Kd.R_F (Kd.R_mono (ok' := (fun _ => True)) (HO103.out) (fun k_ hk => trivial))))) (Reps.one (show Kd.FK (Kd.slice 41 k41) _ _ y104 [.slice Ao25 y104.length co25] from (Kd.FK_slice_mk (Kd.R_reads' (Kd.R_mono (ok' := (fun _ => True)) (HO106.out) (fun k_ hk => trivial))).2.1 (Kd.R_F (Kd.R_mono (ok' := (fun _ => True)) (HO106.out) (fun k_ hk => trivial))))) (Reps.none _ _)))); intro v108 w26 ho27 hb hg_ hnew_; clear hg_ hnew_; (first | rw [← Ny107.out] at ho27 | (simp only [Int.reduceToNat] at ho27; rw [← Ny107.out] at ho27)); have n0_ := Aside0.mk (Kd.N_lower ho27 (below_size (by repeat (first | (with_reducible first | exact HB.out | apply below_alloc | apply pw_below_drewN | apply below_drew1) | exact HB.out)))); have n1_ := Aside0.mk (below_step (by repeat (first | (with_reducible first | exact HB.out | apply below_alloc | apply pw_below_drewN | apply below_drew1) | exact HB.out)) hb); clear HB; clear HO103; clear HO106; have HO109 := n0_; have HB := n1_; clear n0_ n1_; clear hb ho27; obtain ⟨Ao28, co28, eo28⟩ := Kd.N_slice HO109.out; subst eo28) | ((with_reducible refine gate_callee (f := 15) rfl ?_); refine goesL_ (some 13) rfl rfl Tryd.func15 (by kernel_rfl) rfl #[.int .i64 1, .slice Ao28 y107.length co28] rfl (by (try simp only [List.map_toArray, List.map_cons, List.map_nil]); first | done | rfl | (simp only [List.length_drop, List.length_take]; rfl)) ?_; (with_reducible refine (fuse_Of.calls k 1 _ _ y107 t110 t111 _ ?side1 ?side2 ?side3 A1.out).mono ?_); (case side1 => first | (with_reducible exact HG.out) | exact Glob.below HG.out (by repeat (first | (with_reducible first | exact HB.out | apply below_alloc | apply pw_below_drewN | apply below_drew1) | exact HB.out)) | exact Glob.drawn HG.out (by repeat (first | exact Drawn0.refl _ | apply Drawn0.step))); (case side2 => repeat (first | exact (Kd.N_reads' HO109.out).2.2 | (with_reducible refine Kd.C_alloc ?_ _) | (with_reducible refine Kd.C_drewN ?_ _) | (with_reducible refine Kd.C_drew ?_))); (case side3 => exact (Kd.N_reads' HO109.out).2.1); rintro e w29 ⟨v112, rfl, ho0, hb⟩; refine ⟨_, rfl, ?_⟩; have n0_ := Aside0.mk (Kd.N_elder' (by (with_reducible repeat (first | apply Kd.N_alloc | apply Kd.N_drewN | apply Kd.N_drew)); exact HO109.out) (Kd.R_base ho0) hb); have n1_ := Aside0.mk (Kd.R_lower ho0 (below_size (by repeat (first | (with_reducible first | exact HB.out | apply below_alloc | apply pw_below_drewN | apply below_drew1) | exact HB.out)))); have n2_ := Aside0.mk (below_step (by repeat (first | (with_reducible first | exact HB.out | apply below_alloc | apply pw_below_drewN | apply below_drew1) | exact HB.out)) hb); clear HO109; clear HB; have HO109 := n0_; have HO113 := n1_; have HB := n2_; clear n0_ n1_ n2_; (try clear hb); (try clear hb2); (try clear hk); (try clear hi); (try clear ho0)) | ((with_reducible refine gate_callee (f := 18) rfl ?_); refine goesL_ (some 17) rfl rfl Tryd.func18 (by kernel_rfl) rfl #[.int .i64 3, .slice none 0 0] rfl (by (try simp only [List.map_toArray, List.map_cons, List.map_nil]); first | done | rfl | (simp only [List.length_drop, List.length_take]; rfl)) ?_; (refine (fuse_Chain.calls k 3 _ _ ([] : List (List (S41))) t114 t115 _ ?side1 ?side2 ?side3 A2.out).mono ?_); (case side1 => first | (with_reducible exact HG.out) | exact Glob.below HG.out (by repeat (first | (with_reducible first | exact HB.out | apply below_alloc | apply pw_below_drewN | apply below_drew1) | exact HB.out)) | exact Glob.drawn HG.out (by repeat (first | exact Drawn0.refl _ | apply Drawn0.step))); (case side2 => exact Kd.C_nil _ _); (case side3 => exact Nat.le_refl _); rintro e w30 ⟨rfl, hb⟩; refine ⟨_, rfl, ?_⟩; have n0_ := Aside0.mk (Kd.N_below (by (with_reducible repeat (first | apply Kd.N_alloc | apply Kd.N_drewN | apply Kd.N_drew)); exact HO109.out) hb); have n1_ := Aside0.mk (Kd.R_below (by (with_reducible repeat (first | apply Kd.R_alloc | apply Kd.R_drewN | apply Kd.R_drew)); exact HO113.out) hb); have n2_ := Aside0.mk (below_step (by repeat (first | (with_reducible first | exact HB.out | apply below_alloc | apply pw_below_drewN | apply below_drew1) | exact HB.out)) hb); clear HO109; clear HO113; clear HB; have HO109 := n0_; have HO113 := n1_; have HB := n2_; clear n0_ n1_ n2_; (try clear hb); (try clear hb2); (try clear hk); (try clear hi); obtain ⟨Ao31, co31, eo31⟩ := Kd.R_slice HO113.out; subst eo31; have p116 : 0 ≤ (0 : Int) := (by omega); have q116 : 0 < (t110.length : Int) := of_decide_eq_true (by first | (with_reducible assumption) | assumption); obtain ⟨ad116, e116, hx116_0, hx116_1, hx116_2⟩ := at_T41 (Kd.R_reads' HO113.out).2.2 0 p116 q116; cases e116; have qi116 : (0 < t110.length) = True := eq_true (by omega); (try rw [show ((0 : Int)).toNat = 0 from rfl] at hx116_0); (try rw [show 0 * 3 = 0 from rfl] at hx116_0); (try rw [Addr.add_zero'] at hx116_0); (try rw [show ((0 : Int)).toNat = 0 from rfl] at hx116_1); (try rw [show 0 * 3 = 0 from rfl] at hx116_1); (try rw [Addr.add_zero'] at hx116_1); (try rw [show ((0 : Int)).toNat = 0 from rfl] at hx116_2); (try rw [show 0 * 3 = 0 from rfl] at hx116_2); (try rw [Addr.add_zero'] at hx116_2); replace p116 := eq_true p116; replace q116 := eq_true q116))
            go_ret
            exact ⟨by first | rfl | (simp [errW_none, errW_some] <;> rfl) | (simp [*, errW_none, errW_some] <;> rfl), by repeat (first | (with_reducible first | exact HB.out | apply below_alloc | apply pw_below_drewN | apply below_drew1) | exact HB.out)⟩
        · rw [if_neg c6] at H
          have c6b0 : (((rd_T41 t110 0).f0) == 1 && (((rd_T41 t110 0).f1) == 1 && ((((rd_T41 t110 0).f2).toList) == ([] : List UInt8)))) = false := by simpa using c6
          (try (have c6b0e : (((rd_T41 t110 0).f0) == 1 && (((rd_T41 t110 0).f1) == 1 && ((((rd_T41 t110 0).f2).toList).isEmpty))) = false := by simpa using c6b0))
          (try (have c6b1 : decide (((rd_T41 t110 0).f0) = 1 && (((rd_T41 t110 0).f1) == 1 && ((((rd_T41 t110 0).f2).toList) == ([] : List UInt8)))) = false := by simpa using c6))
          (try (have c6b2 : (((rd_T41 t110 0).f0) == 1 && (((rd_T41 t110 0).f1) == 1 && ((((rd_T41 t110 0).f2).toList) == ([] : List UInt8)))) = false := by simpa using c6))
          (try (have c6b3 : ¬ (((rd_T41 t110 0).f0) = 1 && (((rd_T41 t110 0).f1) == 1 && ((((rd_T41 t110 0).f2).toList) == ([] : List UInt8)))) := by simpa using c6))
          (try (have c6b4 : ((rd_T41 t110 0).f0) = true := neb_l (a := ((rd_T41 t110 0).f0)) (b := 1 && (((rd_T41 t110 0).f1) == 1 && ((((rd_T41 t110 0).f2).toList) == ([] : List UInt8)))) (v := false) (by first | exact c6 | simpa using c6) (by assumption)))
          (try (have c6b5 : ((rd_T41 t110 0).f0) = false := neb_l (a := ((rd_T41 t110 0).f0)) (b := 1 && (((rd_T41 t110 0).f1) == 1 && ((((rd_T41 t110 0).f2).toList) == ([] : List UInt8)))) (v := true) (by first | exact c6 | simpa using c6) (by assumption)))
          (try (have c6b6 : 1 && (((rd_T41 t110 0).f1) == 1 && ((((rd_T41 t110 0).f2).toList) == ([] : List UInt8))) = true := neb_r (a := ((rd_T41 t110 0).f0)) (b := 1 && (((rd_T41 t110 0).f1) == 1 && ((((rd_T41 t110 0).f2).toList) == ([] : List UInt8)))) (v := false) (by first | exact c6 | simpa using c6) (by assumption)))
          (try (have c6b7 : 1 && (((rd_T41 t110 0).f1) == 1 && ((((rd_T41 t110 0).f2).toList) == ([] : List UInt8))) = false := neb_r (a := ((rd_T41 t110 0).f0)) (b := 1 && (((rd_T41 t110 0).f1) == 1 && ((((rd_T41 t110 0).f2).toList) == ([] : List UInt8)))) (v := true) (by first | exact c6 | simpa using c6) (by assumption)))
          clear c6
          obtain rfl := Option.some.inj H
          go_enter Tryd.func14, Tryd.ntmps14
          go_wp2_with (first | ((with_reducible refine gate_dst (N := 8) rfl ?_); (try (refine gate_guard (by rfl) ?_; dsimp only)); refine Kd.R_lit k41 _ 41 ?hg (N := 8) ?hd (xs := ([(⟨2, 0, (⟨#[97]⟩ : ByteArray)⟩ : S41), (⟨1, 1, (⟨#[]⟩ : ByteArray)⟩ : S41)] : List (S41))) (inner := [.int .i64 2, .int .i64 0, .string (⟨#[97]⟩ : ByteArray), .int .i64 1, .int .i64 1, .string (⟨#[]⟩ : ByteArray)]) (ok := fun _ => True) (okp := fun _ => True) ?hr ?hp (fun _ hk => hk) trivial (Below.refl _ _) (Nat.le_refl _) (by simp) ?_; (case hd => rfl); (case hg => rfl); (case hr => first | (go_simp; done) | (go_simp; rfl)); (case hp => exact (Reps.c3 (show Kd.M k41 _ _ _ (⟨2, 0, (⟨#[97]⟩ : ByteArray)⟩ : S41) [.int .i64 2, .int .i64 0, .string (⟨#[97]⟩ : ByteArray)] from (k41_mkM _ _ _ (⟨2, 0, (⟨#[97]⟩ : ByteArray)⟩ : S41) )) (Reps.c3 (show Kd.M k41 _ _ _ (⟨1, 1, (⟨#[]⟩ : ByteArray)⟩ : S41) [.int .i64 1, .int .i64 1, .string (⟨#[]⟩ : ByteArray)] from (k41_mkM _ _ _ (⟨1, 1, (⟨#[]⟩ : ByteArray)⟩ : S41) )) (Reps.none _ _)))); intro v102 w32 ho33 hb hg_ hnew_; clear hg_ hnew_; (first | rw [← Ny101.out] at ho33 | (simp only [Int.reduceToNat] at ho33; rw [← Ny101.out] at ho33)); have n0_ := Aside0.mk (Kd.R_lower ho33 (below_size (by repeat (first | (with_reducible first | exact HB.out | apply below_alloc | apply pw_below_drewN | apply below_drew1) | exact HB.out)))); have n1_ := Aside0.mk (below_step (by repeat (first | (with_reducible first | exact HB.out | apply below_alloc | apply pw_below_drewN | apply below_drew1) | exact HB.out)) hb); clear HB; have HO103 := n0_; have HB := n1_; clear n0_ n1_; clear hb ho33) | ((with_reducible refine gate_dst (N := 11) rfl ?_); (try (refine gate_guard (by rfl) ?_; dsimp only)); refine Kd.R_lit k41 _ 41 ?hg (N := 11) ?hd (xs := ([(⟨3, 1, (⟨#[]⟩ : ByteArray)⟩ : S41), (⟨1, 1, (⟨#[]⟩ : ByteArray)⟩ : S41)] : List (S41))) (inner := [.int .i64 3, .int .i64 1, .string (⟨#[]⟩ : ByteArray), .int .i64 1, .int .i64 1, .string (⟨#[]⟩ : ByteArray)]) (ok := fun _ => True) (okp := fun _ => True) ?hr ?hp (fun _ hk => hk) trivial (Below.refl _ _) (Nat.le_refl _) (by simp) ?_; (case hd => rfl); (case hg => rfl); (case hr => first | (go_simp; done) | (go_simp; rfl)); (case hp => exact (Reps.c3 (show Kd.M k41 _ _ _ (⟨3, 1, (⟨#[]⟩ : ByteArray)⟩ : S41) [.int .i64 3, .int .i64 1, .string (⟨#[]⟩ : ByteArray)] from (k41_mkM _ _ _ (⟨3, 1, (⟨#[]⟩ : ByteArray)⟩ : S41) )) (Reps.c3 (show Kd.M k41 _ _ _ (⟨1, 1, (⟨#[]⟩ : ByteArray)⟩ : S41) [.int .i64 1, .int .i64 1, .string (⟨#[]⟩ : ByteArray)] from (k41_mkM _ _ _ (⟨1, 1, (⟨#[]⟩ : ByteArray)⟩ : S41) )) (Reps.none _ _)))); intro v105 w34 ho35 hb hg_ hnew_; clear hg_ hnew_; (first | rw [← Ny104.out] at ho35 | (simp only [Int.reduceToNat] at ho35; rw [← Ny104.out] at ho35)); have n0_ := Aside0.mk (Kd.R_elder' (by (with_reducible repeat (first | apply Kd.R_alloc | apply Kd.R_drewN | apply Kd.R_drew)); exact HO103.out) (Kd.R_base ho35) hb); have n1_ := Aside0.mk (Kd.R_lower (Kd.R_new' ho35 (Kd.R_lt (by (with_reducible repeat (first | apply Kd.R_alloc | apply Kd.R_drewN | apply Kd.R_drew)); exact HO103.out))) (below_size (by repeat (first | (with_reducible first | exact HB.out | apply below_alloc | apply pw_below_drewN | apply below_drew1) | exact HB.out)))); have n2_ := Aside0.mk (below_step (by repeat (first | (with_reducible first | exact HB.out | apply below_alloc | apply pw_below_drewN | apply below_drew1) | exact HB.out)) hb); clear HO103; clear HB; have HO103 := n0_; have HO106 := n1_; have HB := n2_; clear n0_ n1_ n2_; clear hb ho35; obtain ⟨Ao36, co36, eo36⟩ := Kd.R_slice HO103.out; subst eo36; obtain ⟨Ao37, co37, eo37⟩ := Kd.R_slice HO106.out; subst eo37) | ((with_reducible refine gate_dst (N := 12) rfl ?_); (try (refine gate_guard (by rfl) ?_; dsimp only)); refine Kd.N_lit (Kd.slice 41 k41) _ 24 ?hg (N' := 12) ?hd (xs := ([y101, y104] : List (List (S41)))) (inner := [.slice Ao36 y101.length co36, .slice Ao37 y104.length co37]) (ok := (fun _ => True)) (okp := (fun _ => True)) ?hr ?hp (fun _ hk => hk) ((show ∀ k_, w34.heap.size ≤ k_ → (fun _ => True) k_ from fun k_ hk => trivial) _ (Nat.le_refl _)) (Below.refl _ _) (Nat.le_refl _) (by simp) ?_; (case hd => rfl); (case hg => rfl); (case hr => first | (go_simp; done) | (go_simp; rfl)); (case hp => exact (Reps.one (show Kd.FK (Kd.slice 41 k41) _ _ y101 [.slice Ao36 y101.length co36] from (Kd.FK_slice_mk (Kd.R_reads' (Kd.R_mono (ok' := (fun _ => True)) (HO103.out) (fun k_ hk => trivial))).2.1 (Kd.R_F (Kd.R_mono (ok' := (fun _ => True)) (HO103.out) (fun k_ hk => trivial))))) (Reps.one (show Kd.FK (Kd.slice 41 k41) _ _ y104 [.slice Ao37 y104.length co37] from (Kd.FK_slice_mk (Kd.R_reads' (Kd.R_mono (ok' := (fun _ => True)) (HO106.out) (fun k_ hk => trivial))).2.1 (Kd.R_F (Kd.R_mono (ok' := (fun _ => True)) (HO106.out) (fun k_ hk => trivial))))) (Reps.none _ _)))); intro v108 w38 ho39 hb hg_ hnew_; clear hg_ hnew_; (first | rw [← Ny107.out] at ho39 | (simp only [Int.reduceToNat] at ho39; rw [← Ny107.out] at ho39)); have n0_ := Aside0.mk (Kd.N_lower ho39 (below_size (by repeat (first | (with_reducible first | exact HB.out | apply below_alloc | apply pw_below_drewN | apply below_drew1) | exact HB.out)))); have n1_ := Aside0.mk (below_step (by repeat (first | (with_reducible first | exact HB.out | apply below_alloc | apply pw_below_drewN | apply below_drew1) | exact HB.out)) hb); clear HB; clear HO103; clear HO106; have HO109 := n0_; have HB := n1_; clear n0_ n1_; clear hb ho39; obtain ⟨Ao40, co40, eo40⟩ := Kd.N_slice HO109.out; subst eo40) | ((with_reducible refine gate_callee (f := 15) rfl ?_); refine goesL_ (some 13) rfl rfl Tryd.func15 (by kernel_rfl) rfl #[.int .i64 1, .slice Ao40 y107.length co40] rfl (by (try simp only [List.map_toArray, List.map_cons, List.map_nil]); first | done | rfl | (simp only [List.length_drop, List.length_take]; rfl)) ?_; (with_reducible refine (fuse_Of.calls k 1 _ _ y107 t110 t111 _ ?side1 ?side2 ?side3 A1.out).mono ?_); (case side1 => first | (with_reducible exact HG.out) | exact Glob.below HG.out (by repeat (first | (with_reducible first | exact HB.out | apply below_alloc | apply pw_below_drewN | apply below_drew1) | exact HB.out)) | exact Glob.drawn HG.out (by repeat (first | exact Drawn0.refl _ | apply Drawn0.step))); (case side2 => repeat (first | exact (Kd.N_reads' HO109.out).2.2 | (with_reducible refine Kd.C_alloc ?_ _) | (with_reducible refine Kd.C_drewN ?_ _) | (with_reducible refine Kd.C_drew ?_))); (case side3 => exact (Kd.N_reads' HO109.out).2.1); rintro e w41 ⟨v112, rfl, ho0, hb⟩; refine ⟨_, rfl, ?_⟩; have n0_ := Aside0.mk (Kd.N_elder' (by (with_reducible repeat (first | apply Kd.N_alloc | apply Kd.N_drewN | apply Kd.N_drew)); exact HO109.out) (Kd.R_base ho0) hb); have n1_ := Aside0.mk (Kd.R_lower ho0 (below_size (by repeat (first | (with_reducible first | exact HB.out | apply below_alloc | apply pw_below_drewN | apply below_drew1) | exact HB.out)))); have n2_ := Aside0.mk (below_step (by repeat (first | (with_reducible first | exact HB.out | apply below_alloc | apply pw_below_drewN | apply below_drew1) | exact HB.out)) hb); clear HO109; clear HB; have HO109 := n0_; have HO113 := n1_; have HB := n2_; clear n0_ n1_ n2_; (try clear hb); (try clear hb2); (try clear hk); (try clear hi); (try clear ho0)) | ((with_reducible refine gate_callee (f := 18) rfl ?_); refine goesL_ (some 17) rfl rfl Tryd.func18 (by kernel_rfl) rfl #[.int .i64 3, .slice none 0 0] rfl (by (try simp only [List.map_toArray, List.map_cons, List.map_nil]); first | done | rfl | (simp only [List.length_drop, List.length_take]; rfl)) ?_; (refine (fuse_Chain.calls k 3 _ _ ([] : List (List (S41))) t114 t115 _ ?side1 ?side2 ?side3 A2.out).mono ?_); (case side1 => first | (with_reducible exact HG.out) | exact Glob.below HG.out (by repeat (first | (with_reducible first | exact HB.out | apply below_alloc | apply pw_below_drewN | apply below_drew1) | exact HB.out)) | exact Glob.drawn HG.out (by repeat (first | exact Drawn0.refl _ | apply Drawn0.step))); (case side2 => exact Kd.C_nil _ _); (case side3 => exact Nat.le_refl _); rintro e w42 ⟨rfl, hb⟩; refine ⟨_, rfl, ?_⟩; have n0_ := Aside0.mk (Kd.N_below (by (with_reducible repeat (first | apply Kd.N_alloc | apply Kd.N_drewN | apply Kd.N_drew)); exact HO109.out) hb); have n1_ := Aside0.mk (Kd.R_below (by (with_reducible repeat (first | apply Kd.R_alloc | apply Kd.R_drewN | apply Kd.R_drew)); exact HO113.out) hb); have n2_ := Aside0.mk (below_step (by repeat (first | (with_reducible first | exact HB.out | apply below_alloc | apply pw_below_drewN | apply below_drew1) | exact HB.out)) hb); clear HO109; clear HO113; clear HB; have HO109 := n0_; have HO113 := n1_; have HB := n2_; clear n0_ n1_ n2_; (try clear hb); (try clear hb2); (try clear hk); (try clear hi); obtain ⟨Ao43, co43, eo43⟩ := Kd.R_slice HO113.out; subst eo43; have p116 : 0 ≤ (0 : Int) := (by omega); have q116 : 0 < (t110.length : Int) := of_decide_eq_true (by first | (with_reducible assumption) | assumption); obtain ⟨ad116, e116, hx116_0, hx116_1, hx116_2⟩ := at_T41 (Kd.R_reads' HO113.out).2.2 0 p116 q116; cases e116; have qi116 : (0 < t110.length) = True := eq_true (by omega); (try rw [show ((0 : Int)).toNat = 0 from rfl] at hx116_0); (try rw [show 0 * 3 = 0 from rfl] at hx116_0); (try rw [Addr.add_zero'] at hx116_0); (try rw [show ((0 : Int)).toNat = 0 from rfl] at hx116_1); (try rw [show 0 * 3 = 0 from rfl] at hx116_1); (try rw [Addr.add_zero'] at hx116_1); (try rw [show ((0 : Int)).toNat = 0 from rfl] at hx116_2); (try rw [show 0 * 3 = 0 from rfl] at hx116_2); (try rw [Addr.add_zero'] at hx116_2); replace p116 := eq_true p116; replace q116 := eq_true q116))
          go_ret
          exact ⟨by first | rfl | (simp [errW_none, errW_some] <;> rfl) | (simp [*, errW_none, errW_some] <;> rfl), by repeat (first | (with_reducible first | exact HB.out | apply below_alloc | apply pw_below_drewN | apply below_drew1) | exact HB.out)⟩
      · rw [if_neg c5] at H
        exact absurd H (by simp)
    · rw [if_neg c4] at H
      have c4b0 : ((t110.length : Int) == 1) = false := beq_eq_false_iff_ne.mpr c4
      have c4b1 : ((t110.length : Int) != 1) = true := bne_iff_ne.mpr c4
      obtain rfl := Option.some.inj H
      go_enter Tryd.func14, Tryd.ntmps14
      go_wp2_with (first | ((with_reducible refine gate_dst (N := 8) rfl ?_); (try (refine gate_guard (by rfl) ?_; dsimp only)); refine Kd.R_lit k41 _ 41 ?hg (N := 8) ?hd (xs := ([(⟨2, 0, (⟨#[97]⟩ : ByteArray)⟩ : S41), (⟨1, 1, (⟨#[]⟩ : ByteArray)⟩ : S41)] : List (S41))) (inner := [.int .i64 2, .int .i64 0, .string (⟨#[97]⟩ : ByteArray), .int .i64 1, .int .i64 1, .string (⟨#[]⟩ : ByteArray)]) (ok := fun _ => True) (okp := fun _ => True) ?hr ?hp (fun _ hk => hk) trivial (Below.refl _ _) (Nat.le_refl _) (by simp) ?_; (case hd => rfl); (case hg => rfl); (case hr => first | (go_simp; done) | (go_simp; rfl)); (case hp => exact (Reps.c3 (show Kd.M k41 _ _ _ (⟨2, 0, (⟨#[97]⟩ : ByteArray)⟩ : S41) [.int .i64 2, .int .i64 0, .string (⟨#[97]⟩ : ByteArray)] from (k41_mkM _ _ _ (⟨2, 0, (⟨#[97]⟩ : ByteArray)⟩ : S41) )) (Reps.c3 (show Kd.M k41 _ _ _ (⟨1, 1, (⟨#[]⟩ : ByteArray)⟩ : S41) [.int .i64 1, .int .i64 1, .string (⟨#[]⟩ : ByteArray)] from (k41_mkM _ _ _ (⟨1, 1, (⟨#[]⟩ : ByteArray)⟩ : S41) )) (Reps.none _ _)))); intro v102 w44 ho45 hb hg_ hnew_; clear hg_ hnew_; (first | rw [← Ny101.out] at ho45 | (simp only [Int.reduceToNat] at ho45; rw [← Ny101.out] at ho45)); have n0_ := Aside0.mk (Kd.R_lower ho45 (below_size (by repeat (first | (with_reducible first | exact HB.out | apply below_alloc | apply pw_below_drewN | apply below_drew1) | exact HB.out)))); have n1_ := Aside0.mk (below_step (by repeat (first | (with_reducible first | exact HB.out | apply below_alloc | apply pw_below_drewN | apply below_drew1) | exact HB.out)) hb); clear HB; have HO103 := n0_; have HB := n1_; clear n0_ n1_; clear hb ho45) | ((with_reducible refine gate_dst (N := 11) rfl ?_); (try (refine gate_guard (by rfl) ?_; dsimp only)); refine Kd.R_lit k41 _ 41 ?hg (N := 11) ?hd (xs := ([(⟨3, 1, (⟨#[]⟩ : ByteArray)⟩ : S41), (⟨1, 1, (⟨#[]⟩ : ByteArray)⟩ : S41)] : List (S41))) (inner := [.int .i64 3, .int .i64 1, .string (⟨#[]⟩ : ByteArray), .int .i64 1, .int .i64 1, .string (⟨#[]⟩ : ByteArray)]) (ok := fun _ => True) (okp := fun _ => True) ?hr ?hp (fun _ hk => hk) trivial (Below.refl _ _) (Nat.le_refl _) (by simp) ?_; (case hd => rfl); (case hg => rfl); (case hr => first | (go_simp; done) | (go_simp; rfl)); (case hp => exact (Reps.c3 (show Kd.M k41 _ _ _ (⟨3, 1, (⟨#[]⟩ : ByteArray)⟩ : S41) [.int .i64 3, .int .i64 1, .string (⟨#[]⟩ : ByteArray)] from (k41_mkM _ _ _ (⟨3, 1, (⟨#[]⟩ : ByteArray)⟩ : S41) )) (Reps.c3 (show Kd.M k41 _ _ _ (⟨1, 1, (⟨#[]⟩ : ByteArray)⟩ : S41) [.int .i64 1, .int .i64 1, .string (⟨#[]⟩ : ByteArray)] from (k41_mkM _ _ _ (⟨1, 1, (⟨#[]⟩ : ByteArray)⟩ : S41) )) (Reps.none _ _)))); intro v105 w46 ho47 hb hg_ hnew_; clear hg_ hnew_; (first | rw [← Ny104.out] at ho47 | (simp only [Int.reduceToNat] at ho47; rw [← Ny104.out] at ho47)); have n0_ := Aside0.mk (Kd.R_elder' (by (with_reducible repeat (first | apply Kd.R_alloc | apply Kd.R_drewN | apply Kd.R_drew)); exact HO103.out) (Kd.R_base ho47) hb); have n1_ := Aside0.mk (Kd.R_lower (Kd.R_new' ho47 (Kd.R_lt (by (with_reducible repeat (first | apply Kd.R_alloc | apply Kd.R_drewN | apply Kd.R_drew)); exact HO103.out))) (below_size (by repeat (first | (with_reducible first | exact HB.out | apply below_alloc | apply pw_below_drewN | apply below_drew1) | exact HB.out)))); have n2_ := Aside0.mk (below_step (by repeat (first | (with_reducible first | exact HB.out | apply below_alloc | apply pw_below_drewN | apply below_drew1) | exact HB.out)) hb); clear HO103; clear HB; have HO103 := n0_; have HO106 := n1_; have HB := n2_; clear n0_ n1_ n2_; clear hb ho47; obtain ⟨Ao48, co48, eo48⟩ := Kd.R_slice HO103.out; subst eo48; obtain ⟨Ao49, co49, eo49⟩ := Kd.R_slice HO106.out; subst eo49) | ((with_reducible refine gate_dst (N := 12) rfl ?_); (try (refine gate_guard (by rfl) ?_; dsimp only)); refine Kd.N_lit (Kd.slice 41 k41) _ 24 ?hg (N' := 12) ?hd (xs := ([y101, y104] : List (List (S41)))) (inner := [.slice Ao48 y101.length co48, .slice Ao49 y104.length co49]) (ok := (fun _ => True)) (okp := (fun _ => True)) ?hr ?hp (fun _ hk => hk) ((show ∀ k_, w46.heap.size ≤ k_ → (fun _ => True) k_ from fun k_ hk => trivial) _ (Nat.le_refl _)) (Below.refl _ _) (Nat.le_refl _) (by simp) ?_; (case hd => rfl); (case hg => rfl); (case hr => first | (go_simp; done) | (go_simp; rfl)); (case hp => exact (Reps.one (show Kd.FK (Kd.slice 41 k41) _ _ y101 [.slice Ao48 y101.length co48] from (Kd.FK_slice_mk (Kd.R_reads' (Kd.R_mono (ok' := (fun _ => True)) (HO103.out) (fun k_ hk => trivial))).2.1 (Kd.R_F (Kd.R_mono (ok' := (fun _ => True)) (HO103.out) (fun k_ hk => trivial))))) (Reps.one (show Kd.FK (Kd.slice 41 k41) _ _ y104 [.slice Ao49 y104.length co49] from (Kd.FK_slice_mk (Kd.R_reads' (Kd.R_mono (ok' := (fun _ => True)) (HO106.out) (fun k_ hk => trivial))).2.1 (Kd.R_F (Kd.R_mono (ok' := (fun _ => True)) (HO106.out) (fun k_ hk => trivial))))) (Reps.none _ _)))); intro v108 w50 ho51 hb hg_ hnew_; clear hg_ hnew_; (first | rw [← Ny107.out] at ho51 | (simp only [Int.reduceToNat] at ho51; rw [← Ny107.out] at ho51)); have n0_ := Aside0.mk (Kd.N_lower ho51 (below_size (by repeat (first | (with_reducible first | exact HB.out | apply below_alloc | apply pw_below_drewN | apply below_drew1) | exact HB.out)))); have n1_ := Aside0.mk (below_step (by repeat (first | (with_reducible first | exact HB.out | apply below_alloc | apply pw_below_drewN | apply below_drew1) | exact HB.out)) hb); clear HB; clear HO103; clear HO106; have HO109 := n0_; have HB := n1_; clear n0_ n1_; clear hb ho51; obtain ⟨Ao52, co52, eo52⟩ := Kd.N_slice HO109.out; subst eo52) | ((with_reducible refine gate_callee (f := 15) rfl ?_); refine goesL_ (some 13) rfl rfl Tryd.func15 (by kernel_rfl) rfl #[.int .i64 1, .slice Ao52 y107.length co52] rfl (by (try simp only [List.map_toArray, List.map_cons, List.map_nil]); first | done | rfl | (simp only [List.length_drop, List.length_take]; rfl)) ?_; (with_reducible refine (fuse_Of.calls k 1 _ _ y107 t110 t111 _ ?side1 ?side2 ?side3 A1.out).mono ?_); (case side1 => first | (with_reducible exact HG.out) | exact Glob.below HG.out (by repeat (first | (with_reducible first | exact HB.out | apply below_alloc | apply pw_below_drewN | apply below_drew1) | exact HB.out)) | exact Glob.drawn HG.out (by repeat (first | exact Drawn0.refl _ | apply Drawn0.step))); (case side2 => repeat (first | exact (Kd.N_reads' HO109.out).2.2 | (with_reducible refine Kd.C_alloc ?_ _) | (with_reducible refine Kd.C_drewN ?_ _) | (with_reducible refine Kd.C_drew ?_))); (case side3 => exact (Kd.N_reads' HO109.out).2.1); rintro e w53 ⟨v112, rfl, ho0, hb⟩; refine ⟨_, rfl, ?_⟩; have n0_ := Aside0.mk (Kd.N_elder' (by (with_reducible repeat (first | apply Kd.N_alloc | apply Kd.N_drewN | apply Kd.N_drew)); exact HO109.out) (Kd.R_base ho0) hb); have n1_ := Aside0.mk (Kd.R_lower ho0 (below_size (by repeat (first | (with_reducible first | exact HB.out | apply below_alloc | apply pw_below_drewN | apply below_drew1) | exact HB.out)))); have n2_ := Aside0.mk (below_step (by repeat (first | (with_reducible first | exact HB.out | apply below_alloc | apply pw_below_drewN | apply below_drew1) | exact HB.out)) hb); clear HO109; clear HB; have HO109 := n0_; have HO113 := n1_; have HB := n2_; clear n0_ n1_ n2_; (try clear hb); (try clear hb2); (try clear hk); (try clear hi); (try clear ho0)) | ((with_reducible refine gate_callee (f := 18) rfl ?_); refine goesL_ (some 17) rfl rfl Tryd.func18 (by kernel_rfl) rfl #[.int .i64 3, .slice none 0 0] rfl (by (try simp only [List.map_toArray, List.map_cons, List.map_nil]); first | done | rfl | (simp only [List.length_drop, List.length_take]; rfl)) ?_; (refine (fuse_Chain.calls k 3 _ _ ([] : List (List (S41))) t114 t115 _ ?side1 ?side2 ?side3 A2.out).mono ?_); (case side1 => first | (with_reducible exact HG.out) | exact Glob.below HG.out (by repeat (first | (with_reducible first | exact HB.out | apply below_alloc | apply pw_below_drewN | apply below_drew1) | exact HB.out)) | exact Glob.drawn HG.out (by repeat (first | exact Drawn0.refl _ | apply Drawn0.step))); (case side2 => exact Kd.C_nil _ _); (case side3 => exact Nat.le_refl _); rintro e w54 ⟨rfl, hb⟩; refine ⟨_, rfl, ?_⟩; have n0_ := Aside0.mk (Kd.N_below (by (with_reducible repeat (first | apply Kd.N_alloc | apply Kd.N_drewN | apply Kd.N_drew)); exact HO109.out) hb); have n1_ := Aside0.mk (Kd.R_below (by (with_reducible repeat (first | apply Kd.R_alloc | apply Kd.R_drewN | apply Kd.R_drew)); exact HO113.out) hb); have n2_ := Aside0.mk (below_step (by repeat (first | (with_reducible first | exact HB.out | apply below_alloc | apply pw_below_drewN | apply below_drew1) | exact HB.out)) hb); clear HO109; clear HO113; clear HB; have HO109 := n0_; have HO113 := n1_; have HB := n2_; clear n0_ n1_ n2_; (try clear hb); (try clear hb2); (try clear hk); (try clear hi); obtain ⟨Ao55, co55, eo55⟩ := Kd.R_slice HO113.out; subst eo55))
      go_ret
      exact ⟨by first | rfl | (simp [errW_none, errW_some] <;> rfl) | (simp [*, errW_none, errW_some] <;> rfl), by repeat (first | (with_reducible first | exact HB.out | apply below_alloc | apply pw_below_drewN | apply below_drew1) | exact HB.out)⟩
  · rw [if_neg c3] at H
    have c3b0 : (t111 == 0) = false := beq_eq_false_iff_ne.mpr c3
    have c3b1 : (t111 != 0) = true := bne_iff_ne.mpr c3
    obtain rfl := Option.some.inj H
    go_enter Tryd.func14, Tryd.ntmps14
    go_wp2_with (first | ((with_reducible refine gate_dst (N := 8) rfl ?_); (try (refine gate_guard (by rfl) ?_; dsimp only)); refine Kd.R_lit k41 _ 41 ?hg (N := 8) ?hd (xs := ([(⟨2, 0, (⟨#[97]⟩ : ByteArray)⟩ : S41), (⟨1, 1, (⟨#[]⟩ : ByteArray)⟩ : S41)] : List (S41))) (inner := [.int .i64 2, .int .i64 0, .string (⟨#[97]⟩ : ByteArray), .int .i64 1, .int .i64 1, .string (⟨#[]⟩ : ByteArray)]) (ok := fun _ => True) (okp := fun _ => True) ?hr ?hp (fun _ hk => hk) trivial (Below.refl _ _) (Nat.le_refl _) (by simp) ?_; (case hd => rfl); (case hg => rfl); (case hr => first | (go_simp; done) | (go_simp; rfl)); (case hp => exact (Reps.c3 (show Kd.M k41 _ _ _ (⟨2, 0, (⟨#[97]⟩ : ByteArray)⟩ : S41) [.int .i64 2, .int .i64 0, .string (⟨#[97]⟩ : ByteArray)] from (k41_mkM _ _ _ (⟨2, 0, (⟨#[97]⟩ : ByteArray)⟩ : S41) )) (Reps.c3 (show Kd.M k41 _ _ _ (⟨1, 1, (⟨#[]⟩ : ByteArray)⟩ : S41) [.int .i64 1, .int .i64 1, .string (⟨#[]⟩ : ByteArray)] from (k41_mkM _ _ _ (⟨1, 1, (⟨#[]⟩ : ByteArray)⟩ : S41) )) (Reps.none _ _)))); intro v102 w56 ho57 hb hg_ hnew_; clear hg_ hnew_; (first | rw [← Ny101.out] at ho57 | (simp only [Int.reduceToNat] at ho57; rw [← Ny101.out] at ho57)); have n0_ := Aside0.mk (Kd.R_lower ho57 (below_size (by repeat (first | (with_reducible first | exact HB.out | apply below_alloc | apply pw_below_drewN | apply below_drew1) | exact HB.out)))); have n1_ := Aside0.mk (below_step (by repeat (first | (with_reducible first | exact HB.out | apply below_alloc | apply pw_below_drewN | apply below_drew1) | exact HB.out)) hb); clear HB; have HO103 := n0_; have HB := n1_; clear n0_ n1_; clear hb ho57) | ((with_reducible refine gate_dst (N := 11) rfl ?_); (try (refine gate_guard (by rfl) ?_; dsimp only)); refine Kd.R_lit k41 _ 41 ?hg (N := 11) ?hd (xs := ([(⟨3, 1, (⟨#[]⟩ : ByteArray)⟩ : S41), (⟨1, 1, (⟨#[]⟩ : ByteArray)⟩ : S41)] : List (S41))) (inner := [.int .i64 3, .int .i64 1, .string (⟨#[]⟩ : ByteArray), .int .i64 1, .int .i64 1, .string (⟨#[]⟩ : ByteArray)]) (ok := fun _ => True) (okp := fun _ => True) ?hr ?hp (fun _ hk => hk) trivial (Below.refl _ _) (Nat.le_refl _) (by simp) ?_; (case hd => rfl); (case hg => rfl); (case hr => first | (go_simp; done) | (go_simp; rfl)); (case hp => exact (Reps.c3 (show Kd.M k41 _ _ _ (⟨3, 1, (⟨#[]⟩ : ByteArray)⟩ : S41) [.int .i64 3, .int .i64 1, .string (⟨#[]⟩ : ByteArray)] from (k41_mkM _ _ _ (⟨3, 1, (⟨#[]⟩ : ByteArray)⟩ : S41) )) (Reps.c3 (show Kd.M k41 _ _ _ (⟨1, 1, (⟨#[]⟩ : ByteArray)⟩ : S41) [.int .i64 1, .int .i64 1, .string (⟨#[]⟩ : ByteArray)] from (k41_mkM _ _ _ (⟨1, 1, (⟨#[]⟩ : ByteArray)⟩ : S41) )) (Reps.none _ _)))); intro v105 w58 ho59 hb hg_ hnew_; clear hg_ hnew_; (first | rw [← Ny104.out] at ho59 | (simp only [Int.reduceToNat] at ho59; rw [← Ny104.out] at ho59)); have n0_ := Aside0.mk (Kd.R_elder' (by (with_reducible repeat (first | apply Kd.R_alloc | apply Kd.R_drewN | apply Kd.R_drew)); exact HO103.out) (Kd.R_base ho59) hb); have n1_ := Aside0.mk (Kd.R_lower (Kd.R_new' ho59 (Kd.R_lt (by (with_reducible repeat (first | apply Kd.R_alloc | apply Kd.R_drewN | apply Kd.R_drew)); exact HO103.out))) (below_size (by repeat (first | (with_reducible first | exact HB.out | apply below_alloc | apply pw_below_drewN | apply below_drew1) | exact HB.out)))); have n2_ := Aside0.mk (below_step (by repeat (first | (with_reducible first | exact HB.out | apply below_alloc | apply pw_below_drewN | apply below_drew1) | exact HB.out)) hb); clear HO103; clear HB; have HO103 := n0_; have HO106 := n1_; have HB := n2_; clear n0_ n1_ n2_; clear hb ho59; obtain ⟨Ao60, co60, eo60⟩ := Kd.R_slice HO103.out; subst eo60; obtain ⟨Ao61, co61, eo61⟩ := Kd.R_slice HO106.out; subst eo61) | ((with_reducible refine gate_dst (N := 12) rfl ?_); (try (refine gate_guard (by rfl) ?_; dsimp only)); refine Kd.N_lit (Kd.slice 41 k41) _ 24 ?hg (N' := 12) ?hd (xs := ([y101, y104] : List (List (S41)))) (inner := [.slice Ao60 y101.length co60, .slice Ao61 y104.length co61]) (ok := (fun _ => True)) (okp := (fun _ => True)) ?hr ?hp (fun _ hk => hk) ((show ∀ k_, w58.heap.size ≤ k_ → (fun _ => True) k_ from fun k_ hk => trivial) _ (Nat.le_refl _)) (Below.refl _ _) (Nat.le_refl _) (by simp) ?_; (case hd => rfl); (case hg => rfl); (case hr => first | (go_simp; done) | (go_simp; rfl)); (case hp => exact (Reps.one (show Kd.FK (Kd.slice 41 k41) _ _ y101 [.slice Ao60 y101.length co60] from (Kd.FK_slice_mk (Kd.R_reads' (Kd.R_mono (ok' := (fun _ => True)) (HO103.out) (fun k_ hk => trivial))).2.1 (Kd.R_F (Kd.R_mono (ok' := (fun _ => True)) (HO103.out) (fun k_ hk => trivial))))) (Reps.one (show Kd.FK (Kd.slice 41 k41) _ _ y104 [.slice Ao61 y104.length co61] from (Kd.FK_slice_mk (Kd.R_reads' (Kd.R_mono (ok' := (fun _ => True)) (HO106.out) (fun k_ hk => trivial))).2.1 (Kd.R_F (Kd.R_mono (ok' := (fun _ => True)) (HO106.out) (fun k_ hk => trivial))))) (Reps.none _ _)))); intro v108 w62 ho63 hb hg_ hnew_; clear hg_ hnew_; (first | rw [← Ny107.out] at ho63 | (simp only [Int.reduceToNat] at ho63; rw [← Ny107.out] at ho63)); have n0_ := Aside0.mk (Kd.N_lower ho63 (below_size (by repeat (first | (with_reducible first | exact HB.out | apply below_alloc | apply pw_below_drewN | apply below_drew1) | exact HB.out)))); have n1_ := Aside0.mk (below_step (by repeat (first | (with_reducible first | exact HB.out | apply below_alloc | apply pw_below_drewN | apply below_drew1) | exact HB.out)) hb); clear HB; clear HO103; clear HO106; have HO109 := n0_; have HB := n1_; clear n0_ n1_; clear hb ho63; obtain ⟨Ao64, co64, eo64⟩ := Kd.N_slice HO109.out; subst eo64) | ((with_reducible refine gate_callee (f := 15) rfl ?_); refine goesL_ (some 13) rfl rfl Tryd.func15 (by kernel_rfl) rfl #[.int .i64 1, .slice Ao64 y107.length co64] rfl (by (try simp only [List.map_toArray, List.map_cons, List.map_nil]); first | done | rfl | (simp only [List.length_drop, List.length_take]; rfl)) ?_; (with_reducible refine (fuse_Of.calls k 1 _ _ y107 t110 t111 _ ?side1 ?side2 ?side3 A1.out).mono ?_); (case side1 => first | (with_reducible exact HG.out) | exact Glob.below HG.out (by repeat (first | (with_reducible first | exact HB.out | apply below_alloc | apply pw_below_drewN | apply below_drew1) | exact HB.out)) | exact Glob.drawn HG.out (by repeat (first | exact Drawn0.refl _ | apply Drawn0.step))); (case side2 => repeat (first | exact (Kd.N_reads' HO109.out).2.2 | (with_reducible refine Kd.C_alloc ?_ _) | (with_reducible refine Kd.C_drewN ?_ _) | (with_reducible refine Kd.C_drew ?_))); (case side3 => exact (Kd.N_reads' HO109.out).2.1); rintro e w65 ⟨v112, rfl, ho0, hb⟩; refine ⟨_, rfl, ?_⟩; have n0_ := Aside0.mk (Kd.N_elder' (by (with_reducible repeat (first | apply Kd.N_alloc | apply Kd.N_drewN | apply Kd.N_drew)); exact HO109.out) (Kd.R_base ho0) hb); have n1_ := Aside0.mk (Kd.R_lower ho0 (below_size (by repeat (first | (with_reducible first | exact HB.out | apply below_alloc | apply pw_below_drewN | apply below_drew1) | exact HB.out)))); have n2_ := Aside0.mk (below_step (by repeat (first | (with_reducible first | exact HB.out | apply below_alloc | apply pw_below_drewN | apply below_drew1) | exact HB.out)) hb); clear HO109; clear HB; have HO109 := n0_; have HO113 := n1_; have HB := n2_; clear n0_ n1_ n2_; (try clear hb); (try clear hb2); (try clear hk); (try clear hi); (try clear ho0)) | ((with_reducible refine gate_callee (f := 18) rfl ?_); refine goesL_ (some 17) rfl rfl Tryd.func18 (by kernel_rfl) rfl #[.int .i64 3, .slice none 0 0] rfl (by (try simp only [List.map_toArray, List.map_cons, List.map_nil]); first | done | rfl | (simp only [List.length_drop, List.length_take]; rfl)) ?_; (refine (fuse_Chain.calls k 3 _ _ ([] : List (List (S41))) t114 t115 _ ?side1 ?side2 ?side3 A2.out).mono ?_); (case side1 => first | (with_reducible exact HG.out) | exact Glob.below HG.out (by repeat (first | (with_reducible first | exact HB.out | apply below_alloc | apply pw_below_drewN | apply below_drew1) | exact HB.out)) | exact Glob.drawn HG.out (by repeat (first | exact Drawn0.refl _ | apply Drawn0.step))); (case side2 => exact Kd.C_nil _ _); (case side3 => exact Nat.le_refl _); rintro e w66 ⟨rfl, hb⟩; refine ⟨_, rfl, ?_⟩; have n0_ := Aside0.mk (Kd.N_below (by (with_reducible repeat (first | apply Kd.N_alloc | apply Kd.N_drewN | apply Kd.N_drew)); exact HO109.out) hb); have n1_ := Aside0.mk (Kd.R_below (by (with_reducible repeat (first | apply Kd.R_alloc | apply Kd.R_drewN | apply Kd.R_drew)); exact HO113.out) hb); have n2_ := Aside0.mk (below_step (by repeat (first | (with_reducible first | exact HB.out | apply below_alloc | apply pw_below_drewN | apply below_drew1) | exact HB.out)) hb); clear HO109; clear HO113; clear HB; have HO109 := n0_; have HO113 := n1_; have HB := n2_; clear n0_ n1_ n2_; (try clear hb); (try clear hb2); (try clear hk); (try clear hi)))
    go_ret
    exact ⟨by first | rfl | (simp [errW_none, errW_some] <;> rfl) | (simp [*, errW_none, errW_some] <;> rfl), by repeat (first | (with_reducible first | exact HB.out | apply below_alloc | apply pw_below_drewN | apply below_drew1) | exact HB.out)⟩
end Go.Proofs.YthhgobiaecehbaaDoor.F
end
section
namespace Go.Proofs.YthhgobiaecehbaaDoor.F
open Go.RowKit Go.Proofs.YthhgobiaecehbaaDoorW.PrintWords Go.Proofs.YthhgobiaecehbaaDoorW.PrintLast Go.Proofs.YthhgobiaecehbaaDoorW.PrintMore
attribute [local go_sem] max2_int min2_int max_two min_two max_three min_three max_four min_four cell_setCell_isSome
set_option linter.unusedVariables false
set_option linter.unusedSimpArgs false
def epitomeref01_size.j0 : Nat → Int → Bool → Option (Int)
  | 0, _, _ => none
  | k + 1, x0, x16 => if x16 = true then (some 0) else (if x0 < 128 then (some 1) else (if x0 < 2048 then (some 2) else (if x0 < 65536 then (some 3) else (some 4))))
def epitomeref01_size.f (k : Nat) (a0 : Int) : Option (Int) := if a0 < 0 then (epitomeref01_size.j0 k a0 true) else (if a0 > 1114111 then (epitomeref01_size.j0 k a0 true) else (if a0 ≥ 55296 then (epitomeref01_size.j0 k a0 (decide (a0 ≤ 57343))) else (epitomeref01_size.j0 k a0 false)))
theorem epitomeref01_size.mono_l : ∀ k, (∀ y0 y1, LeO (epitomeref01_size.j0 k y0 y1) (epitomeref01_size.j0 (k + 1) y0 y1))
  | 0 => fun _ _ r h => by simp [epitomeref01_size.j0] at h
  | k + 1 => by
    have ih0 := epitomeref01_size.mono_l k
    · intro y0 y1
      unfold epitomeref01_size.j0
      repeat' first
      | (with_reducible exact ih0 _ _)
      | (with_reducible exact LeO.refl _)
      | (with_reducible exact LeO.none _)
      | (with_reducible refine LeO.ite ?_ ?_)
      | (with_reducible refine LeO.bind ?_ (fun _ => ?_))
      | exact ih0 _ _
      | exact LeO.none _
      | refine LeO.ite ?_ ?_
      | refine LeO.bind ?_ (fun _ => ?_)
theorem epitomeref01_size.mono : ∀ a0 k, LeO (epitomeref01_size.f k a0) (epitomeref01_size.f (k + 1) a0) := by
  intro a0 k
  have ih0 := epitomeref01_size.mono_l k
  unfold epitomeref01_size.f
  repeat' first
      | (with_reducible exact ih0 _ _)
      | (with_reducible exact LeO.refl _)
      | (with_reducible exact LeO.none _)
      | (with_reducible refine LeO.ite ?_ ?_)
      | (with_reducible refine LeO.bind ?_ (fun _ => ?_))
      | exact ih0 _ _
      | exact LeO.none _
      | refine LeO.ite ?_ ?_
      | refine LeO.bind ?_ (fun _ => ?_)
set_option maxHeartbeats 8000000 in
set_option maxRecDepth 100000 in
theorem epitomeref01_size.calls (k : Nat) (a0 : Int) (r : Int) (w : World) (h : epitomeref01_size.f k a0 = some r) :
    Calls Tryd.prog 78 #[.int .i64 a0] w fun e w' => e = .returned (.int .i64 r) ∧ Drawn0 w w' := by
  have H : (if a0 < 0 then (epitomeref01_size.j0 k a0 true) else (if a0 > 1114111 then (epitomeref01_size.j0 k a0 true) else (if a0 ≥ 55296 then (epitomeref01_size.j0 k a0 (decide (a0 ≤ 57343))) else (epitomeref01_size.j0 k a0 false)))) = some r := h
  clear h
  have HC2 := Aside0.mk H
  clear H
  go_enter Tryd.func78, Tryd.ntmps78
  go_upto_region 1 with (fail)
  go_cut [16] (fun v16 wc => ∃ (kq : Nat) (x16_1 : Bool), v16 = .bool x16_1 ∧ Aside0 (epitomeref01_size.j0 kq a0 x16_1 = some r) ∧ Aside0 (kq ≤ k) ∧ Drawn0 w wc)
  case first =>
    have H := HC2.out
    clear HC2
    by_cases c3 : a0 < 0
    · rw [if_pos c3] at H
      have c3b0 : decide (a0 < 0) = true := decide_eq_true c3
      clear c3
      (first | rw [c3b0] | (simp only [i64_w, i32_w]; rw [c3b0]) | skip)
      have H' := Aside0.mk H
      clear H
      go_wp2
      go_meet
      case rel => exact ⟨_, (true), (by first | rfl | (simp; done) | (simp [*]; done)), H', ⟨by first | omega | exact Nat.le_refl _⟩, by repeat (first | exact Drawn0.refl _ | apply Drawn0.step)⟩
    · rw [if_neg c3] at H
      have c3b0 : decide (a0 < 0) = false := decide_eq_false c3
      clear c3
      (first | rw [c3b0] | (simp only [i64_w, i32_w]; rw [c3b0]) | skip)
      by_cases c4 : a0 > 1114111
      · rw [if_pos c4] at H
        have c4b0 : decide (1114111 < a0) = true := decide_eq_true c4
        clear c4
        have H' := Aside0.mk H
        clear H
        go_wp2
        go_meet
        case rel => exact ⟨_, (true), (by first | rfl | (simp; done) | (simp [*]; done)), H', ⟨by first | omega | exact Nat.le_refl _⟩, by repeat (first | exact Drawn0.refl _ | apply Drawn0.step)⟩
      · rw [if_neg c4] at H
        have c4b0 : decide (1114111 < a0) = false := decide_eq_false c4
        clear c4
        by_cases c5 : a0 ≥ 55296
        · rw [if_pos c5] at H
          have c5b0 : decide (55296 ≤ a0) = true := decide_eq_true c5
          clear c5
          have H' := Aside0.mk H
          clear H
          go_wp2
          go_meet
          case rel => exact ⟨_, (decide (a0 ≤ 57343)), (by first | rfl | (simp; done) | (simp [*]; done)), H', ⟨by first | omega | exact Nat.le_refl _⟩, by repeat (first | exact Drawn0.refl _ | apply Drawn0.step)⟩
        · rw [if_neg c5] at H
          have c5b0 : decide (55296 ≤ a0) = false := decide_eq_false c5
          clear c5
          have H' := Aside0.mk H
          clear H
          go_wp2
          go_meet
          case rel => exact ⟨_, (false), (by first | rfl | (simp; done) | (simp [*]; done)), H', ⟨by first | omega | exact Nat.le_refl _⟩, by repeat (first | exact Drawn0.refl _ | apply Drawn0.step)⟩
  case rest =>
    clear HC2
    try clear p2
    try clear c3
    try clear c3b0
    try clear c4
    try clear c4b0
    try clear c5
    try clear c5b0
    obtain ⟨kq, x16_1, rfl, HA, HJ1, ⟨mc1, rfl⟩⟩ := hcut
    cases kq with
    | zero => exact absurd HA.out (by simp [epitomeref01_size.j0])
    | succ kj1 =>
      have H := HA.out
      clear HA
      simp only [epitomeref01_size.j0] at H
      by_cases c6 : x16_1 = true
      · subst c6
        have H1 : (some 0) = some r := by rw [if_pos rfl] at H; exact H
        clear H
        have H := H1
        clear H1
        obtain rfl := Option.some.inj H
        go_wp2
        go_ret
        exact ⟨by first | rfl | (simp; done) | (simp [*]; done), by repeat (first | exact Drawn0.refl _ | apply Drawn0.step)⟩
      · replace c6 := Bool.eq_false_iff.mpr c6
        subst c6
        have H1 : (if a0 < 128 then (some 1) else (if a0 < 2048 then (some 2) else (if a0 < 65536 then (some 3) else (some 4)))) = some r := by rw [if_neg (show ¬ (false = true) by decide)] at H; exact H
        clear H
        have H := H1
        clear H1
        by_cases c7 : a0 < 128
        · rw [if_pos c7] at H
          have c7b0 : decide (a0 < 128) = true := decide_eq_true c7
          clear c7
          obtain rfl := Option.some.inj H
          go_wp2
          go_ret
          exact ⟨by first | rfl | (simp; done) | (simp [*]; done), by repeat (first | exact Drawn0.refl _ | apply Drawn0.step)⟩
        · rw [if_neg c7] at H
          have c7b0 : decide (a0 < 128) = false := decide_eq_false c7
          clear c7
          by_cases c8 : a0 < 2048
          · rw [if_pos c8] at H
            have c8b0 : decide (a0 < 2048) = true := decide_eq_true c8
            clear c8
            obtain rfl := Option.some.inj H
            go_wp2
            go_ret
            exact ⟨by first | rfl | (simp; done) | (simp [*]; done), by repeat (first | exact Drawn0.refl _ | apply Drawn0.step)⟩
          · rw [if_neg c8] at H
            have c8b0 : decide (a0 < 2048) = false := decide_eq_false c8
            clear c8
            by_cases c9 : a0 < 65536
            · rw [if_pos c9] at H
              have c9b0 : decide (a0 < 65536) = true := decide_eq_true c9
              clear c9
              obtain rfl := Option.some.inj H
              go_wp2
              go_ret
              exact ⟨by first | rfl | (simp; done) | (simp [*]; done), by repeat (first | exact Drawn0.refl _ | apply Drawn0.step)⟩
            · rw [if_neg c9] at H
              have c9b0 : decide (a0 < 65536) = false := decide_eq_false c9
              clear c9
              obtain rfl := Option.some.inj H
              go_wp2
              go_ret
              exact ⟨by first | rfl | (simp; done) | (simp [*]; done), by repeat (first | exact Drawn0.refl _ | apply Drawn0.step)⟩
end Go.Proofs.YthhgobiaecehbaaDoor.F
end
