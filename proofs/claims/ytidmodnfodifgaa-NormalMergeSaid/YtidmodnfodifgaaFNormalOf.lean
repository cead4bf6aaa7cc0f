-- Written by drive.py (this session's) with the kit's printer, beside functions proved by hand. Not trusted: Lean checks it.
import Derived.Test.YtidmodnfodifgaaBase
import Derived.Test.YtidmodnfodifgaaFApiSpan15
import Derived.Test.YtidmodnfodifgaaHCopy
namespace Go.Proofs.Ytidmodnfodifgaa.F
open Go.RowKit Go.Proofs.YtidmodnfodifgaaW.PrintWords Go.Proofs.YtidmodnfodifgaaW.PrintLast Go.Proofs.YtidmodnfodifgaaW.PrintMore
attribute [local go_sem] max2_int min2_int max_two min_two max_three min_three max_four min_four cell_setCell_isSome
set_option linter.unusedVariables false
set_option linter.unusedSimpArgs false

/-! ### normal_Of: function 9 -/
def normal_Of.l0 : Nat → List (S31) → Int → Int → Int → Option ((List (S31)))
  | 0, _, _, _, _ => none
  | k + 1, x3, x4, x16, x17 => if x17 < x16 then (if 0 ≤ x17 then (if x17 < (x3.length : Int) then (if x17 = 0 then (normal_Of.l0 k x3 x4 x16 (wrap64 (x17 + 1))) else (if 0 ≤ x4 then (if x4 < (x3.length : Int) then (if ((rd_T31 x3 x17).f0) = ((rd_T31 x3 x4).f0) then ((some (x3.set (x4 : Int).toNat (⟨(rd_T31 x3 x4).f0, wrap64 (((rd_T31 x3 x4).f1) + ((rd_T31 x3 x17).f1)), (rd_T31 x3 x4).f2⟩ : S31) : List (S31))).bind fun y117 => (if ((rd_T31 y117 x4).f2).size + ((rd_T31 x3 x17).f2).size ≤ 9223372036854775807 then (normal_Of.l0 k (y117.set (x4 : Int).toNat (⟨(rd_T31 y117 x4).f0, (rd_T31 y117 x4).f1, ((rd_T31 y117 x4).f2) ++ ((rd_T31 x3 x17).f2)⟩ : S31)) x4 x16 (wrap64 (x17 + 1))) else (none))) else (if 0 ≤ (wrap64 (x4 + 1)) then (if (wrap64 (x4 + 1)) < (x3.length : Int) then (normal_Of.l0 k (x3.set ((wrap64 (x4 + 1)) : Int).toNat (⟨(rd_T31 x3 x17).f0, (rd_T31 x3 x17).f1, (rd_T31 x3 x17).f2⟩ : S31)) (wrap64 (x4 + 1)) x16 (wrap64 (x17 + 1))) else (none)) else (none))) else (none)) else (none))) else (none)) else (none)) else (if 0 ≤ (mn (wrap64 (x4 + 1)) (x3.length : Int)) then (if (mn (wrap64 (x4 + 1)) (x3.length : Int)) ≤ (x3.length : Int) then (some (x3.take ((mn (wrap64 (x4 + 1)) (x3.length : Int)) : Int).toNat)) else (none)) else (none))
def normal_Of.f (k : Nat) (l0 : List (S31)) : Option ((List (S31))) := (some (([] : List (S31)) : List (S31))).bind fun y101 => (if y101.length + l0.length < 4398046511104 then ((api_Span_15.f k (y101 ++ l0)).bind fun t107 => (normal_Of.l0 k t107 0 (t107.length : Int) 0)) else (none))
theorem normal_Of.mono_l : ∀ k, (∀ y0 y1 y2 y3, LeO (normal_Of.l0 k y0 y1 y2 y3) (normal_Of.l0 (k + 1) y0 y1 y2 y3))
  | 0 => fun _ _ _ _ r h => by simp [normal_Of.l0] at h
  | k + 1 => by
    have ih0 := normal_Of.mono_l k
    · intro y0 y1 y2 y3
      unfold normal_Of.l0
      repeat' first
      | (with_reducible exact ih0 _ _ _ _)
      | (with_reducible exact api_Span_15.mono _ _)
      | (with_reducible exact LeO.refl _)
      | (with_reducible exact LeO.none _)
      | (with_reducible refine LeO.ite ?_ ?_)
      | (with_reducible refine LeO.bind ?_ (fun _ => ?_))
      | exact ih0 _ _ _ _
      | exact api_Span_15.mono _ _
      | exact LeO.none _
      | refine LeO.ite ?_ ?_
      | refine LeO.bind ?_ (fun _ => ?_)
theorem normal_Of.mono : ∀ a0 k, LeO (normal_Of.f k a0) (normal_Of.f (k + 1) a0) := by
  intro a0 k
  have ih0 := normal_Of.mono_l k
  unfold normal_Of.f
  repeat' first
      | (with_reducible exact ih0 _ _ _ _)
      | (with_reducible exact api_Span_15.mono _ _)
      | (with_reducible exact LeO.refl _)
      | (with_reducible exact LeO.none _)
      | (with_reducible refine LeO.ite ?_ ?_)
      | (with_reducible refine LeO.bind ?_ (fun _ => ?_))
      | exact ih0 _ _ _ _
      | exact api_Span_15.mono _ _
      | exact LeO.none _
      | refine LeO.ite ?_ ?_
      | refine LeO.bind ?_ (fun _ => ?_)
def normal_Of.T11 : Bool × List (List Nat × List Nat) := (true, [([], []), ([0], [0]), ([], []), ([], []), ([2, 3], [2, 3]), ([4], [4]), ([5], [5]), ([1, 6], [1, 6]), ([7], [7])])
def normal_Of.B11 : List Nat := [0, 1, 0, 0, 12, 28, 60, 127, 255]
theorem normal_Of.tab11 : rtab .any (opsOf Try.f9 11) = normal_Of.T11 := by kernel_rfl
theorem normal_Of.bits11 : waitsOk normal_Of.T11.2 normal_Of.B11 = true := by kernel_rfl
def normal_Of.T12 : Bool × List (List Nat × List Nat) := (true, [([], []), ([], []), ([0, 1], [0, 1]), ([2], [2]), ([3], [3]), ([], []), ([5], [5]), ([4, 6], [4, 6]), ([0, 1, 0, 1, 2, 3, 4, 5, 6, 7], [0, 1]), ([8, 0, 1, 2, 3, 4, 5, 6, 7], [8]), ([9, 7, 0, 1, 2, 3, 4, 5, 6, 7], [7, 9])])
def normal_Of.B12 : List Nat := [0, 0, 3, 7, 15, 0, 32, 127, 255, 511, 1023]
theorem normal_Of.tab12 : rtab .any (opsOf Try.f9 12) = normal_Of.T12 := by kernel_rfl
theorem normal_Of.bits12 : waitsOk normal_Of.T12.2 normal_Of.B12 = true := by kernel_rfl
def normal_Of.T13 : Bool × List (List Nat × List Nat) := (true, [([], []), ([], []), ([0, 1], [0, 1]), ([2], [2]), ([3], [3]), ([], []), ([5], [5]), ([4, 6], [4, 6]), ([0, 1, 0, 1, 2, 3, 4, 5, 6, 7], [0, 1]), ([8, 0, 1, 2, 3, 4, 5, 6, 7], [8]), ([9, 7, 0, 1, 2, 3, 4, 5, 6, 7], [7, 9])])
def normal_Of.B13 : List Nat := [0, 0, 3, 7, 15, 0, 32, 127, 255, 511, 1023]
theorem normal_Of.tab13 : rtab .any (opsOf Try.f9 13) = normal_Of.T13 := by kernel_rfl
theorem normal_Of.bits13 : waitsOk normal_Of.T13.2 normal_Of.B13 = true := by kernel_rfl
set_option maxHeartbeats 8000000 in
set_option maxRecDepth 100000 in
theorem normal_Of.calls (k : Nat) (A0 : Option Addr) (c0 : Nat) (l0 : List (S31)) (r : List (S31)) (w : World) (hr0 : Kd.C k31 w A0 l0.length l0) (hc0 : l0.length ≤ c0) (h : normal_Of.f k l0 = some r) :
    Calls Try.prog 9 #[.slice A0 l0.length c0] w fun e w' => ∃ v0_ : Value, e = .returned (v0_) ∧ Kd.R k31 31 w' w.heap.size (fun _ => True) v0_ r ∧ Below w.heap.size w w' := by
  have hu31 := Try.underlying31
  have HR0 := Aside0.mk hr0
  have HC0 := Aside0.mk hc0
  clear hr0 hc0
  have HB := Aside0.mk (Below.refl w.heap.size w)
  have H : ((some (([] : List (S31)) : List (S31))).bind fun y101 => (if y101.length + l0.length < 4398046511104 then ((api_Span_15.f k (y101 ++ l0)).bind fun t107 => (normal_Of.l0 k t107 0 (t107.length : Int) 0)) else (none))) = some r := h
  clear h
  obtain ⟨y101, hy101⟩ : ∃ y_ : List (S31), y_ = (([] : List (S31))) := ⟨_, rfl⟩
  replace H : (if y101.length + l0.length < 4398046511104 then ((api_Span_15.f k (y101 ++ l0)).bind fun t107 => (normal_Of.l0 k t107 0 (t107.length : Int) 0)) else (none)) = some r := by first | (rw [hy101]; with_reducible exact H) | (have H2_ := (Option.bind_some _ _).symm.trans H; rw [hy101]; with_reducible exact H2_) | (have H2_ := (Option.bind_some _ _).symm.trans H; with_reducible exact H2_) | with_reducible exact H | (rw [hy101]; exact H) | exact H
  have Ny101 := Aside0.mk hy101
  clear hy101
  by_cases c2 : y101.length + l0.length < 4398046511104
  · rw [if_pos c2] at H
    have LMc2 := Aside0.mk c2
    clear c2
    obtain ⟨y104, hy104⟩ : ∃ y_ : List (S31), y_ = (y101 ++ l0) := ⟨_, rfl⟩
    replace H : ((api_Span_15.f k y104).bind fun t107 => (normal_Of.l0 k t107 0 (t107.length : Int) 0)) = some r := by first | (rw [hy104]; with_reducible exact H) | (have H2_ := (Option.bind_some _ _).symm.trans H; rw [hy104]; with_reducible exact H2_) | (have H2_ := (Option.bind_some _ _).symm.trans H; with_reducible exact H2_) | with_reducible exact H | (rw [hy104]; exact H) | exact H
    have Ny104 := Aside0.mk hy104
    clear hy104
    replace H := Option.bind_eq_some_iff.mp H
    obtain ⟨t107, A30, H⟩ := H
    replace H : (normal_Of.l0 k t107 0 (t107.length : Int) 0) = some r := H
    have A3 := Aside0.mk A30
    clear A30
    have H' := Aside0.mk H
    clear H
    go_enter Try.func9, Try.ntmps9
    go_wp2_with (first | ((with_reducible refine gate_make (t := 22) (x := .tmp 8) (y := .tmp 8) rfl ?_); refine Kd.R_make k31 (w0 := w) w.heap.size 31 rfl rfl 22 (.tmp 8) (.tmp 8) rfl (l0.length : Int) rfl rfl Try.underlying22 (.agg #[(.int .i64 0), (.int .i64 0), (.string ⟨#[]⟩)]) 32 info31 rfl (by decide) (by decide) (⟨0, 0, ⟨#[]⟩⟩ : S31) (ok := fun _ => True) (okp := fun _ => True) ?hz (fun _ h => h) trivial (by omega) ?aL ?aB ?aS ?_; (case hz => exact k31_mkM _ _ _ (⟨0, 0, ⟨#[]⟩⟩ : S31)); (case aL => have := LMc2.out; omega); (case aB => exact (by repeat (first | (with_reducible first | exact HB.out | apply below_alloc | apply pw_below_drewN | apply below_drew1) | exact HB.out))); (case aS => exact (below_size (by repeat (first | (with_reducible first | exact HB.out | apply below_alloc | apply pw_below_drewN | apply below_drew1) | exact HB.out)))); intro v102m w4m ho5 hb hg_ hnew_; clear hg_ hnew_; have n0_ := Aside0.mk ho5; have n1_ := Aside0.mk hb; clear HB; have HO103 := n0_; have HB := n1_; clear n0_ n1_; clear hb ho5) | ((with_reducible refine gate_builtin (b := .copy) (xs := #[.tmp 10, .tmp 11]) rfl ?_); refine R_copy_rows k31 (w0 := w) w.heap.size rfl (.tmp 10) (.tmp 11) 22 22 31 (by decide) rfl Try.underlying22 (info_size info31) v102m (List.replicate ((l0.length : Int)).toNat (⟨0, 0, ⟨#[]⟩⟩ : S31)) l0 A0 l0.length c0 (fun _ => True) (fun _ => False) rfl rfl ?aO ?aR (by simp) (fun _ _ h => h) (fun _ h => h.elim) ?aB ?aS ?_; (case aR => repeat (first | exact (Kd.C_below HR0.out HB.out) | (with_reducible refine Kd.C_alloc ?_ _) | (with_reducible refine Kd.C_drewN ?_ _) | (with_reducible refine Kd.C_drew ?_))); (case aB => exact (by repeat (first | (with_reducible first | exact HB.out | apply below_alloc | apply pw_below_drewN | apply below_drew1) | exact HB.out))); (case aO => exact (by (with_reducible repeat (first | apply Kd.R_alloc | apply Kd.R_drewN | apply Kd.R_drew)); exact HO103.out)); (case aS => exact (below_size (by repeat (first | (with_reducible first | exact HB.out | apply below_alloc | apply pw_below_drewN | apply below_drew1) | exact HB.out)))); intro w6m ho hb hg; have hyy : l0 = y104 := (by rw [Ny104.out, Ny101.out]; rfl); rw [hyy] at ho; clear hyy; have n0_ := Aside0.mk hb; have n1_ := Aside0.mk ho; clear HB; clear HO103; have HB := n0_; have HO106 := n1_; clear n0_ n1_; clear ho hb hg; obtain ⟨Ao7, co7, eo7⟩ := Kd.R_slice HO106.out; subst eo7) | ((with_reducible refine gate_callee (f := 15) rfl ?_); refine goesL_ (some 14) rfl rfl Try.func15 (by kernel_rfl) rfl #[.slice Ao7 y104.length co7, .func (.func 16) #[] #[]] rfl (by (try simp only [List.map_toArray, List.map_cons, List.map_nil]); first | done | rfl | (simp only [List.length_drop, List.length_take]; rfl)) ?_; (with_reducible refine (api_Span_15.calls k (fun k_ => some k_ = (.slice Ao7 y104.length co7 : Value).ownBlock) (.slice Ao7 y104.length co7) y104 t107 w _ ?side1 ?side2 A3.out).mono ?_); (case side1 => repeat (first | (with_reducible first | exact HB.out | apply below_alloc | apply pw_below_drewN | apply below_drew1) | exact HB.out)); (case side2 => exact Kd.R_tight rfl HO106.out); rintro e w8 ⟨v108, rfl, ho0, hb, hkp⟩; refine ⟨_, rfl, ?_⟩; have n0_ := Aside0.mk (Kd.R_mono (ok' := fun k_ => True) ho0 (fun k_ hk_ => trivial)); have n1_ := Aside0.mk (hb); clear HB; clear HO106; have HO109 := n0_; have HB := n1_; clear n0_ n1_; (try clear hb); (try clear hkp); (try clear ho0); obtain ⟨Ao9, co9, eo9⟩ := Kd.R_slice HO109.out; subst eo9))
    go_loopg [4, 17] k (fun kq v4 v17 w' => ∃ (x3_1 : List (S31)) (x4_1 : Int) (x17_1 : Int), v4 = .int .i64 x4_1 ∧ v17 = .int .i64 x17_1 ∧ Aside0 (normal_Of.l0 kq x3_1 x4_1 (t107.length : Int) x17_1 = some r) ∧ Aside0 (kq ≤ k) ∧ Aside0 (Kd.R k31 31 w' w.heap.size (fun _ => True) (.slice Ao9 t107.length co9) x3_1) ∧ Aside0 (Below w.heap.size w w'))
    case atStart => exact ⟨(t107), (0), (0), (by first | rfl | (simp; done) | (simp [*]; done)), (by first | rfl | (simp; done) | (simp [*]; done)), H', ⟨Nat.le_refl _⟩, ⟨by (with_reducible repeat (first | apply Kd.R_alloc | apply Kd.R_drewN | apply Kd.R_drew)); exact HO109.out⟩, ⟨by repeat (first | (with_reducible first | exact HB.out | apply below_alloc | apply pw_below_drewN | apply below_drew1) | exact HB.out)⟩⟩
    case round =>
      clear H'
      try clear c1
      try clear c2
      try clear p2
      try clear c9
      obtain ⟨x3_1, x4_1, x17_1, rfl, rfl, HA, HK1, HO_3, HB⟩ := hrel
      have hl3_1 := (Kd.R_reads' HO_3.out).1
      rw [hl3_1] at HO_3
      (try simp only [hl3_1])
      cases gk with
      | zero => exact absurd HA.out (by simp [normal_Of.l0])
      | succ k1 =>
        have H := HA.out
        clear HA
        simp only [normal_Of.l0] at H
        by_cases c10 : x17_1 < (t107.length : Int)
        · rw [if_pos c10] at H
          have c10b0 : decide (x17_1 < (t107.length : Int)) = true := decide_eq_true c10
          clear c10
          by_cases c11 : 0 ≤ x17_1
          · rw [if_pos c11] at H
            have c11b0 : decide (0 ≤ x17_1) = true := decide_eq_true c11
            clear c11
            by_cases c12 : x17_1 < (x3_1.length : Int)
            · rw [if_pos c12] at H
              have c12b0 : decide (x17_1 < (x3_1.length : Int)) = true := decide_eq_true c12
              clear c12
              by_cases c13 : x17_1 = 0
              · rw [if_pos c13] at H
                have c13b0 : (x17_1 == 0) = true := beq_iff_eq.mpr c13
                have c13b1 : (x17_1 != 0) = false := bne_eq_false_iff_eq.mpr c13
                clear c13
                have H' := Aside0.mk H
                clear H
                have p113 : 0 ≤ (x17_1 : Int) := of_decide_eq_true (by first | (with_reducible assumption) | assumption)
                have q113 : x17_1 < (x3_1.length : Int) := of_decide_eq_true (by first | (with_reducible assumption) | assumption)
                obtain ⟨ad113, e113, hx113_0, hx113_1, hx113_2⟩ := at_T31 (Kd.R_reads' HO_3.out).2.2 x17_1 p113 q113
                cases e113
                replace p113 := eq_true p113
                replace q113 := eq_true q113
                go_wp2_with (first | ((with_reducible refine gate_dst (N := 6) rfl ?_); refine box_event ?hg (N := 6) ?hd (cs := #[.int .i64 0, .int .i64 0, .string (⟨#[]⟩ : ByteArray)]) (t := 31) ?hr ?_; (case hd => rfl); (case hg => rfl); (case hr => first | (go_simp; done) | (go_simp; rfl)); intro gb114 hg w14 hbox hb; have n0_ := Aside0.mk (Kd.R_below (Kd.R_elderB (by (with_reducible repeat (first | apply Kd.R_alloc | apply Kd.R_drewN | apply Kd.R_drew)); exact HO_3.out) gb114 (Nat.le_of_eq hg.symm)) hb); have n1_ := Aside0.mk (below_step (by repeat (first | (with_reducible first | exact HB.out | apply below_alloc | apply pw_below_drewN | apply below_drew1) | exact HB.out)) hb); have n2_ := Aside0.mk (hbox); have n3_ := Aside0.mk ((by rw [hg]; exact (below_size (by repeat (first | (with_reducible first | exact HB.out | apply below_alloc | apply pw_below_drewN | apply below_drew1) | exact HB.out))) : w.heap.size ≤ gb114)); have n4_ := Aside0.mk ((by rw [hg]; exact (below_size (by repeat (first | (with_reducible first | exact HB.out | apply below_alloc | apply pw_below_drewN | apply below_drew1) | exact HB.out))) : w.heap.size ≤ gb114)); clear HO_3; clear HB; have HO_3 := n0_; have HB := n1_; have BK114 := n2_; have GW114 := n3_; have GE114 := n4_; clear n0_ n1_ n2_ n3_ n4_; clear hb hbox hg; have hcz15_0 : w14.cell? ⟨gb114, 0, none⟩ = some (.int .i64 0) := (blk_cell BK114.out 0).trans rfl; have hcz15_1 : w14.cell? ⟨gb114, 1, none⟩ = some (.int .i64 0) := (blk_cell BK114.out 1).trans rfl; have hcz15_2 : w14.cell? ⟨gb114, 2, none⟩ = some (.string (⟨#[]⟩ : ByteArray)) := (blk_cell BK114.out 2).trans rfl; have hfz15_0 := blk_frozen BK114.out 0; have hfz15_1 := blk_frozen BK114.out 1; have hfz15_2 := blk_frozen BK114.out 2))
                (try simp only [← hl3_1])
                go_roundg k1
                case measure => have := HK1.out; omega
                case rel => exact ⟨(x3_1), (x4_1), (wrap64 (x17_1 + 1)), (by first | rfl | (simp; done) | (simp [*]; done)), (by first | rfl | (simp; done) | (simp [*]; done)), H', ⟨by have := HK1.out; omega⟩, ⟨by (try simp only [hl3_1]); (with_reducible repeat (first | apply Kd.R_alloc | apply Kd.R_drewN | apply Kd.R_drew)); exact Kd.R_mono (Kd.R_far (p := ⟨gb114, 2, none⟩) (Kd.R_far (p := ⟨gb114, 1, none⟩) (Kd.R_far (p := ⟨gb114, 0, none⟩) (Kd.R_mono HO_3.out (fun k_ hk => (⟨hk, hk.2⟩ : _ ∧ k_ ≠ gb114))) (fun _ hk => hk.2) (.int .i64 ((rd_T31 x3_1 x17_1).f0))) (fun _ hk => hk.2) (.int .i64 ((rd_T31 x3_1 x17_1).f1))) (fun _ hk => hk.2) (.string ((rd_T31 x3_1 x17_1).f2))) (fun _ hk => trivial)⟩, ⟨by repeat (first | (with_reducible first | exact HB.out | apply below_alloc | apply pw_below_drewN | apply below_drew1 | refine below_set ?_ GE114.out) | exact HB.out)⟩⟩
              · rw [if_neg c13] at H
                have c13b0 : (x17_1 == 0) = false := beq_eq_false_iff_ne.mpr c13
                have c13b1 : (x17_1 != 0) = true := bne_iff_ne.mpr c13
                by_cases c16 : 0 ≤ x4_1
                · rw [if_pos c16] at H
                  have c16b0 : decide (0 ≤ x4_1) = true := decide_eq_true c16
                  clear c16
                  by_cases c17 : x4_1 < (x3_1.length : Int)
                  · rw [if_pos c17] at H
                    have c17b0 : decide (x4_1 < (x3_1.length : Int)) = true := decide_eq_true c17
                    clear c17
                    by_cases c18 : ((rd_T31 x3_1 x17_1).f0) = ((rd_T31 x3_1 x4_1).f0)
                    · rw [if_pos c18] at H
                      have c18b0 : (((rd_T31 x3_1 x17_1).f0) == ((rd_T31 x3_1 x4_1).f0)) = true := beq_iff_eq.mpr c18
                      have c18b1 : (((rd_T31 x3_1 x17_1).f0) != ((rd_T31 x3_1 x4_1).f0)) = false := bne_eq_false_iff_eq.mpr c18
                      clear c18
                      obtain ⟨y117, hy117⟩ : ∃ y_ : List (S31), y_ = (x3_1.set (x4_1 : Int).toNat (⟨(rd_T31 x3_1 x4_1).f0, wrap64 (((rd_T31 x3_1 x4_1).f1) + ((rd_T31 x3_1 x17_1).f1)), (rd_T31 x3_1 x4_1).f2⟩ : S31)) := ⟨_, rfl⟩
                      replace H : (if ((rd_T31 y117 x4_1).f2).size + ((rd_T31 x3_1 x17_1).f2).size ≤ 9223372036854775807 then (normal_Of.l0 k1 (y117.set (x4_1 : Int).toNat (⟨(rd_T31 y117 x4_1).f0, (rd_T31 y117 x4_1).f1, ((rd_T31 y117 x4_1).f2) ++ ((rd_T31 x3_1 x17_1).f2)⟩ : S31)) x4_1 (t107.length : Int) (wrap64 (x17_1 + 1))) else (none)) = some r := by first | (rw [hy117]; with_reducible exact H) | (have H2_ := (Option.bind_some _ _).symm.trans H; rw [hy117]; with_reducible exact H2_) | (have H2_ := (Option.bind_some _ _).symm.trans H; with_reducible exact H2_) | with_reducible exact H | (rw [hy117]; exact H) | exact H
                      have Ny117 := Aside0.mk hy117
                      clear hy117
                      by_cases c20 : ((rd_T31 y117 x4_1).f2).size + ((rd_T31 x3_1 x17_1).f2).size ≤ 9223372036854775807
                      · rw [if_pos c20] at H
                        have c20b0 := eq_true c20
                        have c20b1 : decide (((rd_T31 y117 x4_1).f2).size + ((rd_T31 x3_1 x17_1).f2).size ≤ 9223372036854775807) = true := decide_eq_true c20
                        try have c20b2 : (9223372036854775807 < ((rd_T31 y117 x4_1).f2).size + ((rd_T31 x3_1 x17_1).f2).size) = False := eq_false (Nat.not_lt.2 c20)
                        obtain ⟨y119, hy119⟩ : ∃ y_ : List (S31), y_ = (y117.set (x4_1 : Int).toNat (⟨(rd_T31 y117 x4_1).f0, (rd_T31 y117 x4_1).f1, ((rd_T31 y117 x4_1).f2) ++ ((rd_T31 x3_1 x17_1).f2)⟩ : S31)) := ⟨_, rfl⟩
                        replace H : (normal_Of.l0 k1 y119 x4_1 (t107.length : Int) (wrap64 (x17_1 + 1))) = some r := by first | (rw [hy119]; with_reducible exact H) | (have H2_ := (Option.bind_some _ _).symm.trans H; rw [hy119]; with_reducible exact H2_) | (have H2_ := (Option.bind_some _ _).symm.trans H; with_reducible exact H2_) | with_reducible exact H | (rw [hy119]; exact H) | exact H
                        have Ny119 := Aside0.mk hy119
                        clear hy119
                        have H' := Aside0.mk H
                        clear H
                        have p113 : 0 ≤ (x17_1 : Int) := of_decide_eq_true (by first | (with_reducible assumption) | assumption)
                        have q113 : x17_1 < (x3_1.length : Int) := of_decide_eq_true (by first | (with_reducible assumption) | assumption)
                        obtain ⟨ad113, e113, hx113_0, hx113_1, hx113_2⟩ := at_T31 (Kd.R_reads' HO_3.out).2.2 x17_1 p113 q113
                        cases e113
                        replace p113 := eq_true p113
                        replace q113 := eq_true q113
                        try go_wp2_with (first | ((with_reducible refine gate_dst (N := 6) rfl ?_); refine box_event ?hg (N := 6) ?hd (cs := #[.int .i64 0, .int .i64 0, .string (⟨#[]⟩ : ByteArray)]) (t := 31) ?hr ?_; (case hd => rfl); (case hg => rfl); (case hr => first | (go_simp; done) | (go_simp; rfl)); intro gb114 hg w22 hbox hb; have n0_ := Aside0.mk (Kd.R_below (Kd.R_elderB (by (with_reducible repeat (first | apply Kd.R_alloc | apply Kd.R_drewN | apply Kd.R_drew)); exact HO_3.out) gb114 (Nat.le_of_eq hg.symm)) hb); have n1_ := Aside0.mk (below_step (by repeat (first | (with_reducible first | exact HB.out | apply below_alloc | apply pw_below_drewN | apply below_drew1) | exact HB.out)) hb); have n2_ := Aside0.mk (hbox); have n3_ := Aside0.mk ((by rw [hg]; exact (below_size (by repeat (first | (with_reducible first | exact HB.out | apply below_alloc | apply pw_below_drewN | apply below_drew1) | exact HB.out))) : w.heap.size ≤ gb114)); have n4_ := Aside0.mk ((by rw [hg]; exact (below_size (by repeat (first | (with_reducible first | exact HB.out | apply below_alloc | apply pw_below_drewN | apply below_drew1) | exact HB.out))) : w.heap.size ≤ gb114)); clear HO_3; clear HB; have HO_3 := n0_; have HB := n1_; have BK114 := n2_; have GW114 := n3_; have GE114 := n4_; clear n0_ n1_ n2_ n3_ n4_; clear hb hbox hg; have hcz23_0 : w22.cell? ⟨gb114, 0, none⟩ = some (.int .i64 0) := (blk_cell BK114.out 0).trans rfl; have hcz23_1 : w22.cell? ⟨gb114, 1, none⟩ = some (.int .i64 0) := (blk_cell BK114.out 1).trans rfl; have hcz23_2 : w22.cell? ⟨gb114, 2, none⟩ = some (.string (⟨#[]⟩ : ByteArray)) := (blk_cell BK114.out 2).trans rfl; have hfz23_0 := blk_frozen BK114.out 0; have hfz23_1 := blk_frozen BK114.out 1; have hfz23_2 := blk_frozen BK114.out 2))
                        have n0_ : Aside0 (Kd.R k31 31 (((w22.setCell ⟨gb114, 0, none⟩ (.int .i64 ((rd_T31 x3_1 x17_1).f0))).setCell ⟨gb114, 1, none⟩ (.int .i64 ((rd_T31 x3_1 x17_1).f1))).setCell ⟨gb114, 2, none⟩ (.string ((rd_T31 x3_1 x17_1).f2))) w.heap.size (fun k_ => k_ ≠ gb114) (.slice (some ad113) x3_1.length co9) x3_1) := ⟨by (with_reducible repeat (first | apply Kd.R_alloc | apply Kd.R_drewN | apply Kd.R_drew)); exact Kd.R_mono (Kd.R_far (p := ⟨gb114, 2, none⟩) (Kd.R_far (p := ⟨gb114, 1, none⟩) (Kd.R_far (p := ⟨gb114, 0, none⟩) (Kd.R_mono HO_3.out (fun k_ hk => (⟨hk, hk.2⟩ : _ ∧ k_ ≠ gb114))) (fun _ hk => hk.2) (.int .i64 ((rd_T31 x3_1 x17_1).f0))) (fun _ hk => hk.2) (.int .i64 ((rd_T31 x3_1 x17_1).f1))) (fun _ hk => hk.2) (.string ((rd_T31 x3_1 x17_1).f2))) (fun _ hk => hk.1.2)⟩
                        have n1_ : Aside0 ((((w22.setCell ⟨gb114, 0, none⟩ (.int .i64 ((rd_T31 x3_1 x17_1).f0))).setCell ⟨gb114, 1, none⟩ (.int .i64 ((rd_T31 x3_1 x17_1).f1))).setCell ⟨gb114, 2, none⟩ (.string ((rd_T31 x3_1 x17_1).f2))).heap[gb114]? = some (.cells #[.int .i64 ((rd_T31 x3_1 x17_1).f0), .int .i64 ((rd_T31 x3_1 x17_1).f1), .string ((rd_T31 x3_1 x17_1).f2)] 31 (0, 0))) := ⟨by (with_reducible repeat (first | refine blk_drewN ?_ _ | refine blk_drew ?_ | refine blk_alloc ?_ _)); refine blk_put (cs := #[.int .i64 ((rd_T31 x3_1 x17_1).f0), .int .i64 ((rd_T31 x3_1 x17_1).f1), .string (⟨#[]⟩ : ByteArray)]) ?_ 2 _ rfl; (with_reducible repeat (first | refine blk_drewN ?_ _ | refine blk_drew ?_ | refine blk_alloc ?_ _)); refine blk_put (cs := #[.int .i64 ((rd_T31 x3_1 x17_1).f0), .int .i64 0, .string (⟨#[]⟩ : ByteArray)]) ?_ 1 _ rfl; (with_reducible repeat (first | refine blk_drewN ?_ _ | refine blk_drew ?_ | refine blk_alloc ?_ _)); refine blk_put (cs := #[.int .i64 0, .int .i64 0, .string (⟨#[]⟩ : ByteArray)]) ?_ 0 _ rfl; (with_reducible repeat (first | refine blk_drewN ?_ _ | refine blk_drew ?_ | refine blk_alloc ?_ _)); exact BK114.out⟩
                        have n2_ : Aside0 (Below w.heap.size w (((w22.setCell ⟨gb114, 0, none⟩ (.int .i64 ((rd_T31 x3_1 x17_1).f0))).setCell ⟨gb114, 1, none⟩ (.int .i64 ((rd_T31 x3_1 x17_1).f1))).setCell ⟨gb114, 2, none⟩ (.string ((rd_T31 x3_1 x17_1).f2)))) := ⟨by repeat (first | (with_reducible first | exact HB.out | apply below_alloc | apply pw_below_drewN | apply below_drew1 | refine below_set ?_ GE114.out) | exact HB.out)⟩
                        (try clear HO_3)
                        (try clear BK114)
                        (try clear HB)
                        generalize (((w22.setCell ⟨gb114, 0, none⟩ (.int .i64 ((rd_T31 x3_1 x17_1).f0))).setCell ⟨gb114, 1, none⟩ (.int .i64 ((rd_T31 x3_1 x17_1).f1))).setCell ⟨gb114, 2, none⟩ (.string ((rd_T31 x3_1 x17_1).f2))) = w24 at n0_ n1_ n2_ ⊢
                        have HO_3 := n0_
                        have BK114 := n1_
                        have HB := n2_
                        clear n0_ n1_ n2_
                        have n0_ := Aside0.mk (Kd.R_drew HO_3.out)
                        have n1_ := Aside0.mk (blk_drew BK114.out)
                        have n2_ := Aside0.mk (below_drew1 HB.out)
                        clear HO_3
                        clear BK114
                        clear HB
                        have HO_3 := n0_
                        have BK114 := n1_
                        have HB := n2_
                        clear n0_ n1_ n2_
                        have p115 : 0 ≤ (x4_1 : Int) := of_decide_eq_true (by first | (with_reducible assumption) | assumption)
                        have q115 : x4_1 < (x3_1.length : Int) := of_decide_eq_true (by first | (with_reducible assumption) | assumption)
                        obtain ⟨ad115, e115, hx115_0, hx115_1, hx115_2⟩ := at_T31 (Kd.R_reads' HO_3.out).2.2 x4_1 p115 q115
                        obtain rfl : ad113 = ad115 := (by injection e115)
                        replace p115 := eq_true p115
                        replace q115 := eq_true q115
                        refine start_ (n := 9) (S := fun w' => w'.cell? ⟨gb114, 0, none⟩ = some (.int .i64 ((rd_T31 x3_1 x17_1).f0)) ∧ w'.cell? ⟨gb114, 1, none⟩ = some (.int .i64 ((rd_T31 x3_1 x17_1).f1)) ∧ w'.cell? ⟨gb114, 2, none⟩ = some (.string ((rd_T31 x3_1 x17_1).f2)) ∧ w'.cell? (ad113.add ((x4_1).toNat * 3)) = some (.int .i64 ((rd_T31 x3_1 x4_1).f0)) ∧ w'.cell? ⟨(ad113.add ((x4_1).toNat * 3)).block, (ad113.add ((x4_1).toNat * 3)).off + 1, none⟩ = some (.int .i64 ((rd_T31 x3_1 x4_1).f1)) ∧ w'.cell? ⟨(ad113.add ((x4_1).toNat * 3)).block, (ad113.add ((x4_1).toNat * 3)).off + 2, none⟩ = some (.string ((rd_T31 x3_1 x4_1).f2))) (ds := []) #[false, false, false, false, false, false, false, false, false] (by kernel_rfl) rfl rfl ⟨(blk_cell BK114.out 0).trans rfl, (blk_cell BK114.out 1).trans rfl, (blk_cell BK114.out 2).trans rfl, hx115_0, hx115_1, hx115_2⟩ (fun hHeld => ?_); refine with_tabW normal_Of.tab11 normal_Of.bits11 (fun HT_ HW_ => ?_)
                        generalize w24.drew = w25 at HO_3 BK114 HB hx115_0 hx115_1 hx115_2 hHeld ⊢
                        refine pure_ (i := 0) (N := some 32) (v := ?_) (a' := ?_) #[true, false, false, false, false, false, false, false, false] rfl rfl (any_of HT_.out (by kernel_rfl)) (fun _ _ _ h => h) (Or.inl ⟨by rfl, ?_⟩) ?_ ?_
                        rotate_left
                        · intro w'
                          go_simp
                          with_reducible rfl
                        rotate_left
                        · simp only [Act.put, List.setIfInBounds_toArray, List.set_cons_zero, List.set_cons_succ, i64_w, i32_w]
                          rfl
                        refine pure_ (i := 2) (N := some 34) (v := ?_) (a' := ?_) #[true, false, true, false, false, false, false, false, false] rfl rfl (any_of HT_.out (by kernel_rfl)) (fun _ _ _ h => h) (Or.inl ⟨by rfl, ?_⟩) ?_ ?_
                        rotate_left
                        · intro w'
                          go_simp
                          with_reducible rfl
                        rotate_left
                        · simp only [Act.put, List.setIfInBounds_toArray, List.set_cons_zero, List.set_cons_succ, i64_w, i32_w]
                          rfl
                        refine pure_ (i := 3) (N := some 35) (v := ?_) (a' := ?_) #[true, false, true, true, false, false, false, false, false] rfl rfl (any_of HT_.out (by kernel_rfl)) (fun _ _ _ h => h) (Or.inl ⟨by rfl, ?_⟩) ?_ ?_
                        rotate_left
                        · intro w'
                          go_simp
                          with_reducible rfl
                        rotate_left
                        · simp only [Act.put, List.setIfInBounds_toArray, List.set_cons_zero, List.set_cons_succ, i64_w, i32_w]
                          rfl
                        refine pure_ (i := 4) (N := some 36) (v := ?_) (a' := ?_) #[true, false, true, true, true, false, false, false, false] rfl rfl (any_of HT_.out (by kernel_rfl)) (fun _ _ _ h => h) (Or.inl ⟨by rfl, ?_⟩) ?_ ?_
                        rotate_left
                        · intro w'
                          go_simp
                          with_reducible rfl
                        rotate_left
                        · simp only [Act.put, List.setIfInBounds_toArray, List.set_cons_zero, List.set_cons_succ, i64_w, i32_w]
                          rfl
                        refine pure_ (i := 5) (N := some 37) (v := ?_) (a' := ?_) #[true, false, true, true, true, true, false, false, false] rfl rfl (any_of HT_.out (by kernel_rfl)) (fun _ _ _ h => h) (Or.inl ⟨by rfl, ?_⟩) ?_ ?_
                        rotate_left
                        · intro w'
                          go_simp
                          with_reducible rfl
                        rotate_left
                        · simp only [Act.put, List.setIfInBounds_toArray, List.set_cons_zero, List.set_cons_succ, i64_w, i32_w]
                          rfl
                        refine take_ (i := 1) (N := some 33) (v := ?_) (a' := ?_) #[true, true, true, true, true, true, false, false, false] rfl rfl (take_ofW HT_.out HW_.out (by kernel_rfl)) (fun _ _ _ h => h) (Or.inl ⟨by rfl, ?_⟩) hHeld ?_ ?_
                        rotate_left
                        · rintro w' ⟨s0, s1, s2, s3, s4, s5⟩
                          go_simp
                          with_reducible rfl
                        rotate_left
                        · simp only [Act.put, List.setIfInBounds_toArray, List.set_cons_zero, List.set_cons_succ, i64_w, i32_w]
                          rfl
                        refine take_ (i := 6) (N := some 38) (v := ?_) (a' := ?_) #[true, true, true, true, true, true, true, false, false] rfl rfl (take_ofW HT_.out HW_.out (by kernel_rfl)) (fun _ _ _ h => h) (Or.inl ⟨by rfl, ?_⟩) hHeld ?_ ?_
                        rotate_left
                        · rintro w' ⟨s0, s1, s2, s3, s4, s5⟩
                          go_simp
                          with_reducible rfl
                        rotate_left
                        · simp only [Act.put, List.setIfInBounds_toArray, List.set_cons_zero, List.set_cons_succ, i64_w, i32_w]
                          rfl
                        refine pure_ (i := 7) (N := some 39) (v := ?_) (a' := ?_) #[true, true, true, true, true, true, true, true, false] rfl rfl (any_of HT_.out (by kernel_rfl)) (fun _ _ _ h => h) (Or.inl ⟨by rfl, ?_⟩) ?_ ?_
                        rotate_left
                        · intro w'
                          go_simp
                          with_reducible rfl
                        rotate_left
                        · simp only [Act.put, List.setIfInBounds_toArray, List.set_cons_zero, List.set_cons_succ, i64_w, i32_w]
                          rfl
                        refine pure_ (i := 8) (N := some 31) (v := ?_) (a' := ?_) #[true, true, true, true, true, true, true, true, true] rfl rfl (any_of HT_.out (by kernel_rfl)) (fun _ _ _ h => h) (Or.inl ⟨by rfl, ?_⟩) ?_ ?_
                        rotate_left
                        · intro w'
                          go_simp
                          with_reducible rfl
                        rotate_left
                        · simp only [Act.put, List.setIfInBounds_toArray, List.set_cons_zero, List.set_cons_succ, i64_w, i32_w]
                          rfl
                        refine done_ (done_of HT_.out (by kernel_rfl)) ?_
                        try go_wp2
                        have n0_ := Aside0.mk (Kd.R_drew HO_3.out)
                        have n1_ := Aside0.mk (blk_drew BK114.out)
                        have n2_ := Aside0.mk (below_drew1 HB.out)
                        clear HO_3
                        clear BK114
                        clear HB
                        have HO_3 := n0_
                        have BK114 := n1_
                        have HB := n2_
                        clear n0_ n1_ n2_
                        have p116 : 0 ≤ (x4_1 : Int) := of_decide_eq_true (by first | (with_reducible assumption) | assumption)
                        have q116 : x4_1 < (x3_1.length : Int) := of_decide_eq_true (by first | (with_reducible assumption) | assumption)
                        obtain ⟨ad116, e116, hx116_0, hx116_1, hx116_2⟩ := at_T31 (Kd.R_reads' HO_3.out).2.2 x4_1 p116 q116
                        obtain rfl : ad113 = ad116 := (by injection e116)
                        replace p116 := eq_true p116
                        replace q116 := eq_true q116
                        have p19 : 0 ≤ (x4_1 : Int) := of_decide_eq_true (by first | (with_reducible assumption) | assumption)
                        have q19 : (x4_1 : Int) < ((x3_1.length : Int) : Int) := of_decide_eq_true (by first | (with_reducible assumption) | assumption)
                        obtain ⟨go19, co19, eo19, gb19, gl19, cl19, HG19⟩ := Kd.R_form HO_3.out (by omega)
                        (first | cases eo19 | (injection eo19 with ea_ en_ ec_; (first | subst ea_ | (injection ea_ with ea_; subst ea_)); subst ec_; clear en_))
                        have GB19 := Aside0.mk gb19
                        have GG19 := Aside0.mk HG19
                        clear gb19 gl19 HG19
                        (first | simp only [add_plain] at hx113_0 | skip)
                        (first | simp only [add_plain] at hx113_1 | skip)
                        (first | simp only [add_plain] at hx113_2 | skip)
                        (first | simp only [add_plain] at hx115_0 | skip)
                        (first | simp only [add_plain] at hx115_1 | skip)
                        (first | simp only [add_plain] at hx115_2 | skip)
                        (first | simp only [add_plain] at hx116_0 | skip)
                        (first | simp only [add_plain] at hx116_1 | skip)
                        (first | simp only [add_plain] at hx116_2 | skip)
                        obtain ⟨ce19, hcl19, hM19, hcc19, hfr19⟩ := Kd.R_elem HO_3.out z31 (x4_1 : Int) p19 q19
                        obtain rfl := k31_openM hM19
                        have hx19_0 : World.cell? _ ⟨go19, (x4_1 : Int).toNat * 3, none⟩ = some (.int .i64 ((rd_T31 x3_1 x4_1).f0)) := hcc19 0 _ rfl
                        have hx19_1 : World.cell? _ ⟨go19, (x4_1 : Int).toNat * 3 + 1, none⟩ = some (.int .i64 ((rd_T31 x3_1 x4_1).f1)) := hcc19 1 _ rfl
                        have hx19_2 : World.cell? _ ⟨go19, (x4_1 : Int).toNat * 3 + 2, none⟩ = some (.string ((rd_T31 x3_1 x4_1).f2)) := hcc19 2 _ rfl
                        have hf19_0 : World.frozen? _ ⟨go19, (x4_1 : Int).toNat * 3, none⟩ = false := hfr19 0
                        have hf19_1 : World.frozen? _ ⟨go19, (x4_1 : Int).toNat * 3 + 1, none⟩ = false := hfr19 1
                        have hf19_2 : World.frozen? _ ⟨go19, (x4_1 : Int).toNat * 3 + 2, none⟩ = false := hfr19 2
                        clear hcl19 hcc19 hfr19 hM19
                        replace p19 := eq_true p19
                        replace q19 := eq_true q19
                        obtain ⟨ce27, hcl27, hM27, hcc27, hfr27⟩ := Kd.R_elem HO_3.out z31 (x4_1 : Int) (of_decide_eq_true (by first | (with_reducible assumption) | assumption)) (by have h_ : (x4_1 : Int) < ((x3_1.length : Int) : Int) := of_decide_eq_true (by first | (with_reducible assumption) | assumption); first | exact h_ | (have e_ := (Kd.R_reads' HO_3.out).1; omega) | simpa using h_)
                        obtain rfl := k31_openM hM27
                        have HP27 := (Kd.R_seg HO_3.out (x4_1 : Int) (of_decide_eq_true (by first | (with_reducible assumption) | assumption)) (by have h_ : (x4_1 : Int) < ((x3_1.length : Int) : Int) := of_decide_eq_true (by first | (with_reducible assumption) | assumption); first | exact h_ | (have e_ := (Kd.R_reads' HO_3.out).1; omega) | simpa using h_) (seg := [.int .i64 (wrap64 (((rd_T31 x3_1 x4_1).f1) + ((rd_T31 x3_1 x17_1).f1)))]) (j := 1) hcl27 hcc27 (show 2 ≤ 3 from by decide) (x' := (⟨(rd_T31 x3_1 x4_1).f0, wrap64 (((rd_T31 x3_1 x4_1).f1) + ((rd_T31 x3_1 x17_1).f1)), (rd_T31 x3_1 x4_1).f2⟩ : S31)) (k31_mkM _ _ _ (⟨(rd_T31 x3_1 x4_1).f0, wrap64 (((rd_T31 x3_1 x4_1).f1) + ((rd_T31 x3_1 x17_1).f1)), (rd_T31 x3_1 x4_1).f2⟩ : S31) ) (fun _ hk => hk)).1
                        rw [← Ny117.out] at HP27
                        have HQ27 := Aside0.mk HP27
                        clear hcl27 hcc27 hfr27 hM27 HP27
                        refine start_ (n := 11) (S := fun w' => w'.cell? ⟨gb114, 0, none⟩ = some (.int .i64 ((rd_T31 x3_1 x17_1).f0)) ∧ w'.cell? ⟨gb114, 1, none⟩ = some (.int .i64 ((rd_T31 x3_1 x17_1).f1)) ∧ w'.cell? ⟨gb114, 2, none⟩ = some (.string ((rd_T31 x3_1 x17_1).f2)) ∧ w'.cell? ⟨go19, ((x4_1).toNat * 3), none⟩ = some (.int .i64 ((rd_T31 x3_1 x4_1).f0)) ∧ w'.cell? ⟨go19, ((x4_1).toNat * 3) + 1, none⟩ = some (.int .i64 ((rd_T31 x3_1 x4_1).f1)) ∧ w'.cell? ⟨go19, ((x4_1).toNat * 3) + 2, none⟩ = some (.string ((rd_T31 x3_1 x4_1).f2))) (ds := [10]) #[false, false, false, false, false, false, false, false, false, false, false] (by kernel_rfl) rfl rfl ⟨(blk_cell BK114.out 0).trans rfl, (blk_cell BK114.out 1).trans rfl, (blk_cell BK114.out 2).trans rfl, hx116_0, hx116_1, hx116_2⟩ (fun hHeld => ?_); refine with_tabW normal_Of.tab12 normal_Of.bits12 (fun HT_ HW_ => ?_)
                        generalize w25.drew = w26 at HO_3 BK114 HB GG19 HQ27 hf19_0 hf19_1 hf19_2 hx113_0 hx113_1 hx113_2 hx115_0 hx115_1 hx115_2 hx116_0 hx116_1 hx116_2 hx19_0 hx19_1 hx19_2 hHeld ⊢
                        refine pure_ (i := 0) (N := some 40) (v := ?_) (a' := ?_) #[true, false, false, false, false, false, false, false, false, false, false] rfl rfl (any_of HT_.out (by kernel_rfl)) (fun _ _ _ h => h) (Or.inl ⟨by rfl, ?_⟩) ?_ ?_
                        rotate_left
                        · intro w'
                          go_simp
                          with_reducible rfl
                        rotate_left
                        · simp only [Act.put, List.setIfInBounds_toArray, List.set_cons_zero, List.set_cons_succ, i64_w, i32_w]
                          rfl
                        refine pure_ (i := 1) (N := some 41) (v := ?_) (a' := ?_) #[true, true, false, false, false, false, false, false, false, false, false] rfl rfl (any_of HT_.out (by kernel_rfl)) (fun _ _ _ h => h) (Or.inl ⟨by rfl, ?_⟩) ?_ ?_
                        rotate_left
                        · intro w'
                          go_simp
                          with_reducible rfl
                        rotate_left
                        · simp only [Act.put, List.setIfInBounds_toArray, List.set_cons_zero, List.set_cons_succ, i64_w, i32_w]
                          rfl
                        refine pure_ (i := 2) (N := some 42) (v := ?_) (a' := ?_) #[true, true, true, false, false, false, false, false, false, false, false] rfl rfl (any_of HT_.out (by kernel_rfl)) (fun _ _ _ h => h) (Or.inl ⟨by rfl, ?_⟩) ?_ ?_
                        rotate_left
                        · intro w'
                          go_simp
                          with_reducible rfl
                        rotate_left
                        · simp only [Act.put, List.setIfInBounds_toArray, List.set_cons_zero, List.set_cons_succ, i64_w, i32_w]
                          rfl
                        refine pure_ (i := 3) (N := some 43) (v := ?_) (a' := ?_) #[true, true, true, true, false, false, false, false, false, false, false] rfl rfl (any_of HT_.out (by kernel_rfl)) (fun _ _ _ h => h) (Or.inl ⟨by rfl, ?_⟩) ?_ ?_
                        rotate_left
                        · intro w'
                          go_simp
                          with_reducible rfl
                        rotate_left
                        · simp only [Act.put, List.setIfInBounds_toArray, List.set_cons_zero, List.set_cons_succ, i64_w, i32_w]
                          rfl
                        refine pure_ (i := 5) (N := some 45) (v := ?_) (a' := ?_) #[true, true, true, true, false, true, false, false, false, false, false] rfl rfl (any_of HT_.out (by kernel_rfl)) (fun _ _ _ h => h) (Or.inl ⟨by rfl, ?_⟩) ?_ ?_
                        rotate_left
                        · intro w'
                          go_simp
                          with_reducible rfl
                        rotate_left
                        · simp only [Act.put, List.setIfInBounds_toArray, List.set_cons_zero, List.set_cons_succ, i64_w, i32_w]
                          rfl
                        refine take_ (i := 4) (N := some 44) (v := ?_) (a' := ?_) #[true, true, true, true, true, true, false, false, false, false, false] rfl rfl (take_ofW HT_.out HW_.out (by kernel_rfl)) (fun _ _ _ h => h) (Or.inl ⟨by rfl, ?_⟩) hHeld ?_ ?_
                        rotate_left
                        · rintro w' ⟨s0, s1, s2, s3, s4, s5⟩
                          go_simp
                          with_reducible rfl
                        rotate_left
                        · simp only [Act.put, List.setIfInBounds_toArray, List.set_cons_zero, List.set_cons_succ, i64_w, i32_w]
                          rfl
                        refine take_ (i := 6) (N := some 46) (v := ?_) (a' := ?_) #[true, true, true, true, true, true, true, false, false, false, false] rfl rfl (take_ofW HT_.out HW_.out (by kernel_rfl)) (fun _ _ _ h => h) (Or.inl ⟨by rfl, ?_⟩) hHeld ?_ ?_
                        rotate_left
                        · rintro w' ⟨s0, s1, s2, s3, s4, s5⟩
                          go_simp
                          with_reducible rfl
                        rotate_left
                        · simp only [Act.put, List.setIfInBounds_toArray, List.set_cons_zero, List.set_cons_succ, i64_w, i32_w]
                          rfl
                        refine pure_ (i := 7) (N := some 47) (v := ?_) (a' := ?_) #[true, true, true, true, true, true, true, true, false, false, false] rfl rfl (any_of HT_.out (by kernel_rfl)) (fun _ _ _ h => h) (Or.inl ⟨by rfl, ?_⟩) ?_ ?_
                        rotate_left
                        · intro w'
                          go_simp
                          with_reducible rfl
                        rotate_left
                        · simp only [Act.put, List.setIfInBounds_toArray, List.set_cons_zero, List.set_cons_succ, i64_w, i32_w]
                          rfl
                        refine pure_ (i := 8) (N := some 48) (v := ?_) (a' := ?_) #[true, true, true, true, true, true, true, true, true, false, false] rfl rfl (any_of HT_.out (by kernel_rfl)) (fun _ _ _ h => h) (Or.inl ⟨by rfl, ?_⟩) ?_ ?_
                        rotate_left
                        · intro w'
                          go_simp
                          with_reducible rfl
                        rotate_left
                        · simp only [Act.put, List.setIfInBounds_toArray, List.set_cons_zero, List.set_cons_succ, i64_w, i32_w]
                          rfl
                        refine pure_ (i := 9) (N := some 49) (v := ?_) (a' := ?_) #[true, true, true, true, true, true, true, true, true, true, false] rfl rfl (any_of HT_.out (by kernel_rfl)) (fun _ _ _ h => h) (Or.inl ⟨by rfl, ?_⟩) ?_ ?_
                        rotate_left
                        · intro w'
                          go_simp
                          with_reducible rfl
                        rotate_left
                        · simp only [Act.put, List.setIfInBounds_toArray, List.set_cons_zero, List.set_cons_succ, i64_w, i32_w]
                          rfl
                        refine last_ (i := 10) (N := none) #[true, true, true, true, true, true, true, true, true, true, true] rfl rfl (one_of HT_.out (by kernel_rfl)) (by decide) (fun K hK => ?_)
                        refine skip_ (w1 := ?_) (by rfl) rfl ?_ ?_
                        rotate_left
                        · go_simp
                          rfl
                        refine hK.out _ _ ?_
                        clear hK K
                        refine done_ (done_of HT_.out (by kernel_rfl)) ?_
                        try go_wp2
                        have n0_ : Aside0 (Kd.R k31 31 (w26.setCell ⟨go19, (x4_1 : Int).toNat * 3 + 1, none⟩ (.int .i64 (wrap64 (((rd_T31 x3_1 x4_1).f1) + ((rd_T31 x3_1 x17_1).f1))))) w.heap.size (fun k_ => k_ ≠ gb114) (.slice (some ⟨go19, 0, none⟩) x3_1.length co9) y117) := ⟨by (with_reducible repeat (first | apply Kd.R_alloc | apply Kd.R_drewN | apply Kd.R_drew)); exact HQ27.out⟩
                        have n1_ : Aside0 ((w26.setCell ⟨go19, (x4_1 : Int).toNat * 3 + 1, none⟩ (.int .i64 (wrap64 (((rd_T31 x3_1 x4_1).f1) + ((rd_T31 x3_1 x17_1).f1))))).heap[gb114]? = some (.cells #[.int .i64 ((rd_T31 x3_1 x17_1).f0), .int .i64 ((rd_T31 x3_1 x17_1).f1), .string ((rd_T31 x3_1 x17_1).f2)] 31 (0, 0))) := ⟨by (with_reducible repeat (first | refine blk_drewN ?_ _ | refine blk_drew ?_ | refine blk_alloc ?_ _)); refine blk_far ?_ (by have h_ := Kd.R_away HO_3.out (fun _ hk => hk); intro e_; exact h_ (by rw [e_]; rfl)) _; (with_reducible repeat (first | refine blk_drewN ?_ _ | refine blk_drew ?_ | refine blk_alloc ?_ _)); exact BK114.out⟩
                        have n2_ : Aside0 (Below w.heap.size w (w26.setCell ⟨go19, (x4_1 : Int).toNat * 3 + 1, none⟩ (.int .i64 (wrap64 (((rd_T31 x3_1 x4_1).f1) + ((rd_T31 x3_1 x17_1).f1)))))) := ⟨by repeat (first | (with_reducible first | exact HB.out | apply below_alloc | apply pw_below_drewN | apply below_drew1 | refine below_set ?_ GB19.out | refine below_set ?_ GE114.out) | exact HB.out)⟩
                        (try clear HO_3)
                        (try clear BK114)
                        (try clear HB)
                        generalize (w26.setCell ⟨go19, (x4_1 : Int).toNat * 3 + 1, none⟩ (.int .i64 (wrap64 (((rd_T31 x3_1 x4_1).f1) + ((rd_T31 x3_1 x17_1).f1))))) = w28 at n0_ n1_ n2_ ⊢
                        have HO_3 := n0_
                        have BK114 := n1_
                        have HB := n2_
                        clear n0_ n1_ n2_
                        have n0_ := Aside0.mk (Kd.R_drew HO_3.out)
                        have n1_ := Aside0.mk (blk_drew BK114.out)
                        have n2_ := Aside0.mk (below_drew1 HB.out)
                        clear HO_3
                        clear BK114
                        clear HB
                        have HO_3 := n0_
                        have BK114 := n1_
                        have HB := n2_
                        clear n0_ n1_ n2_
                        have p118 : 0 ≤ (x4_1 : Int) := of_decide_eq_true (by first | (with_reducible assumption) | assumption)
                        have q118 : x4_1 < (y117.length : Int) := (by have h_ : (x4_1 : Int) < ((x3_1.length : Int) : Int) := of_decide_eq_true (by first | (with_reducible assumption) | assumption); first | (have e_ := (Kd.R_reads' HO_3.out).1; omega) | simpa only [Ny117.out, List.length_set] using h_)
                        have ql118 : ((x4_1 : Int) < ((x3_1.length : Int) : Int)) = True := eq_true (of_decide_eq_true (by first | (with_reducible assumption) | assumption))
                        obtain ⟨ad118, e118, hx118_0, hx118_1, hx118_2⟩ := at_T31 (Kd.R_reads' HO_3.out).2.2 x4_1 p118 q118
                        obtain rfl : (⟨go19, 0, none⟩ : Addr) = ad118 := (by injection e118)
                        (first | simp only [add_plain] at hx118_0 | simp only [add_at] at hx118_0 | simp only [Addr.add, Nat.zero_add] at hx118_0 | skip)
                        (first | simp only [add_plain] at hx118_1 | simp only [add_at] at hx118_1 | simp only [Addr.add, Nat.zero_add] at hx118_1 | skip)
                        (first | simp only [add_plain] at hx118_2 | simp only [add_at] at hx118_2 | simp only [Addr.add, Nat.zero_add] at hx118_2 | skip)
                        replace p118 := eq_true p118
                        replace q118 := eq_true q118
                        have p21 : 0 ≤ (x4_1 : Int) := of_decide_eq_true (by first | (with_reducible assumption) | assumption)
                        have q21 : (x4_1 : Int) < ((x3_1.length : Int) : Int) := of_decide_eq_true (by first | (with_reducible assumption) | assumption)
                        obtain ⟨ce21, hcl21, hM21, hcc21, hfr21⟩ := Kd.R_elem HO_3.out z31 (x4_1 : Int) p21 q21
                        obtain rfl := k31_openM hM21
                        have hx21_0 : World.cell? _ ⟨go19, (x4_1 : Int).toNat * 3, none⟩ = some (.int .i64 ((rd_T31 y117 x4_1).f0)) := hcc21 0 _ rfl
                        have hx21_1 : World.cell? _ ⟨go19, (x4_1 : Int).toNat * 3 + 1, none⟩ = some (.int .i64 ((rd_T31 y117 x4_1).f1)) := hcc21 1 _ rfl
                        have hx21_2 : World.cell? _ ⟨go19, (x4_1 : Int).toNat * 3 + 2, none⟩ = some (.string ((rd_T31 y117 x4_1).f2)) := hcc21 2 _ rfl
                        have hf21_0 : World.frozen? _ ⟨go19, (x4_1 : Int).toNat * 3, none⟩ = false := hfr21 0
                        have hf21_1 : World.frozen? _ ⟨go19, (x4_1 : Int).toNat * 3 + 1, none⟩ = false := hfr21 1
                        have hf21_2 : World.frozen? _ ⟨go19, (x4_1 : Int).toNat * 3 + 2, none⟩ = false := hfr21 2
                        clear hcl21 hcc21 hfr21 hM21
                        replace p21 := eq_true p21
                        replace q21 := eq_true q21
                        obtain ⟨ce30, hcl30, hM30, hcc30, hfr30⟩ := Kd.R_elem HO_3.out z31 (x4_1 : Int) (of_decide_eq_true (by first | (with_reducible assumption) | assumption)) (by have h_ : (x4_1 : Int) < ((x3_1.length : Int) : Int) := of_decide_eq_true (by first | (with_reducible assumption) | assumption); first | exact h_ | (have e_ := (Kd.R_reads' HO_3.out).1; omega) | simpa using h_)
                        obtain rfl := k31_openM hM30
                        have HP30 := (Kd.R_seg HO_3.out (x4_1 : Int) (of_decide_eq_true (by first | (with_reducible assumption) | assumption)) (by have h_ : (x4_1 : Int) < ((x3_1.length : Int) : Int) := of_decide_eq_true (by first | (with_reducible assumption) | assumption); first | exact h_ | (have e_ := (Kd.R_reads' HO_3.out).1; omega) | simpa using h_) (seg := [.string (((rd_T31 y117 x4_1).f2) ++ ((rd_T31 x3_1 x17_1).f2))]) (j := 2) hcl30 hcc30 (show 3 ≤ 3 from by decide) (x' := (⟨(rd_T31 y117 x4_1).f0, (rd_T31 y117 x4_1).f1, ((rd_T31 y117 x4_1).f2) ++ ((rd_T31 x3_1 x17_1).f2)⟩ : S31)) (k31_mkM _ _ _ (⟨(rd_T31 y117 x4_1).f0, (rd_T31 y117 x4_1).f1, ((rd_T31 y117 x4_1).f2) ++ ((rd_T31 x3_1 x17_1).f2)⟩ : S31) ) (fun _ hk => hk)).1
                        rw [← Ny119.out] at HP30
                        have HQ30 := Aside0.mk HP30
                        clear hcl30 hcc30 hfr30 hM30 HP30
                        refine start_ (n := 11) (S := fun w' => w'.cell? ⟨gb114, 0, none⟩ = some (.int .i64 ((rd_T31 x3_1 x17_1).f0)) ∧ w'.cell? ⟨gb114, 1, none⟩ = some (.int .i64 ((rd_T31 x3_1 x17_1).f1)) ∧ w'.cell? ⟨gb114, 2, none⟩ = some (.string ((rd_T31 x3_1 x17_1).f2)) ∧ w'.cell? ⟨go19, (x4_1).toNat * 3, none⟩ = some (.int .i64 ((rd_T31 y117 x4_1).f0)) ∧ w'.cell? ⟨go19, (x4_1).toNat * 3 + 1, none⟩ = some (.int .i64 ((rd_T31 y117 x4_1).f1)) ∧ w'.cell? ⟨go19, (x4_1).toNat * 3 + 2, none⟩ = some (.string ((rd_T31 y117 x4_1).f2))) (ds := [10]) #[false, false, false, false, false, false, false, false, false, false, false] (by kernel_rfl) rfl rfl ⟨(blk_cell BK114.out 0).trans rfl, (blk_cell BK114.out 1).trans rfl, (blk_cell BK114.out 2).trans rfl, hx118_0, hx118_1, hx118_2⟩ (fun hHeld => ?_); refine with_tabW normal_Of.tab13 normal_Of.bits13 (fun HT_ HW_ => ?_)
                        generalize w28.drew = w29 at HO_3 BK114 HB HQ27 HQ30 hf21_0 hf21_1 hf21_2 hx118_0 hx118_1 hx118_2 hx21_0 hx21_1 hx21_2 hHeld ⊢
                        refine pure_ (i := 0) (N := some 50) (v := ?_) (a' := ?_) #[true, false, false, false, false, false, false, false, false, false, false] rfl rfl (any_of HT_.out (by kernel_rfl)) (fun _ _ _ h => h) (Or.inl ⟨by rfl, ?_⟩) ?_ ?_
                        rotate_left
                        · intro w'
                          go_simp
                          with_reducible rfl
                        rotate_left
                        · simp only [Act.put, List.setIfInBounds_toArray, List.set_cons_zero, List.set_cons_succ, i64_w, i32_w]
                          rfl
                        refine pure_ (i := 1) (N := some 51) (v := ?_) (a' := ?_) #[true, true, false, false, false, false, false, false, false, false, false] rfl rfl (any_of HT_.out (by kernel_rfl)) (fun _ _ _ h => h) (Or.inl ⟨by rfl, ?_⟩) ?_ ?_
                        rotate_left
                        · intro w'
                          go_simp
                          with_reducible rfl
                        rotate_left
                        · simp only [Act.put, List.setIfInBounds_toArray, List.set_cons_zero, List.set_cons_succ, i64_w, i32_w]
                          rfl
                        refine pure_ (i := 2) (N := some 52) (v := ?_) (a' := ?_) #[true, true, true, false, false, false, false, false, false, false, false] rfl rfl (any_of HT_.out (by kernel_rfl)) (fun _ _ _ h => h) (Or.inl ⟨by rfl, ?_⟩) ?_ ?_
                        rotate_left
                        · intro w'
                          go_simp
                          with_reducible rfl
                        rotate_left
                        · simp only [Act.put, List.setIfInBounds_toArray, List.set_cons_zero, List.set_cons_succ, i64_w, i32_w]
                          rfl
                        refine pure_ (i := 3) (N := some 53) (v := ?_) (a' := ?_) #[true, true, true, true, false, false, false, false, false, false, false] rfl rfl (any_of HT_.out (by kernel_rfl)) (fun _ _ _ h => h) (Or.inl ⟨by rfl, ?_⟩) ?_ ?_
                        rotate_left
                        · intro w'
                          go_simp
                          with_reducible rfl
                        rotate_left
                        · simp only [Act.put, List.setIfInBounds_toArray, List.set_cons_zero, List.set_cons_succ, i64_w, i32_w]
                          rfl
                        refine pure_ (i := 5) (N := some 55) (v := ?_) (a' := ?_) #[true, true, true, true, false, true, false, false, false, false, false] rfl rfl (any_of HT_.out (by kernel_rfl)) (fun _ _ _ h => h) (Or.inl ⟨by rfl, ?_⟩) ?_ ?_
                        rotate_left
                        · intro w'
                          go_simp
                          with_reducible rfl
                        rotate_left
                        · simp only [Act.put, List.setIfInBounds_toArray, List.set_cons_zero, List.set_cons_succ, i64_w, i32_w]
                          rfl
                        refine take_ (i := 4) (N := some 54) (v := ?_) (a' := ?_) #[true, true, true, true, true, true, false, false, false, false, false] rfl rfl (take_ofW HT_.out HW_.out (by kernel_rfl)) (fun _ _ _ h => h) (Or.inl ⟨by rfl, ?_⟩) hHeld ?_ ?_
                        rotate_left
                        · rintro w' ⟨s0, s1, s2, s3, s4, s5⟩
                          go_simp
                          with_reducible rfl
                        rotate_left
                        · simp only [Act.put, List.setIfInBounds_toArray, List.set_cons_zero, List.set_cons_succ, i64_w, i32_w]
                          rfl
                        refine take_ (i := 6) (N := some 56) (v := ?_) (a' := ?_) #[true, true, true, true, true, true, true, false, false, false, false] rfl rfl (take_ofW HT_.out HW_.out (by kernel_rfl)) (fun _ _ _ h => h) (Or.inl ⟨by rfl, ?_⟩) hHeld ?_ ?_
                        rotate_left
                        · rintro w' ⟨s0, s1, s2, s3, s4, s5⟩
                          go_simp
                          with_reducible rfl
                        rotate_left
                        · simp only [Act.put, List.setIfInBounds_toArray, List.set_cons_zero, List.set_cons_succ, i64_w, i32_w]
                          rfl
                        refine pure_ (i := 7) (N := some 57) (v := ?_) (a' := ?_) #[true, true, true, true, true, true, true, true, false, false, false] rfl rfl (any_of HT_.out (by kernel_rfl)) (fun _ _ _ h => h) (Or.inl ⟨by rfl, ?_⟩) ?_ ?_
                        rotate_left
                        · intro w'
                          go_simp
                          with_reducible rfl
                        rotate_left
                        · simp only [Act.put, List.setIfInBounds_toArray, List.set_cons_zero, List.set_cons_succ, i64_w, i32_w]
                          rfl
                        refine pure_ (i := 8) (N := some 58) (v := ?_) (a' := ?_) #[true, true, true, true, true, true, true, true, true, false, false] rfl rfl (any_of HT_.out (by kernel_rfl)) (fun _ _ _ h => h) (Or.inl ⟨by rfl, ?_⟩) ?_ ?_
                        rotate_left
                        · intro w'
                          go_simp
                          with_reducible rfl
                        rotate_left
                        · simp only [Act.put, List.setIfInBounds_toArray, List.set_cons_zero, List.set_cons_succ, i64_w, i32_w]
                          rfl
                        refine pure_ (i := 9) (N := some 59) (v := ?_) (a' := ?_) #[true, true, true, true, true, true, true, true, true, true, false] rfl rfl (any_of HT_.out (by kernel_rfl)) (fun _ _ _ h => h) (Or.inl ⟨by rfl, ?_⟩) ?_ ?_
                        rotate_left
                        · intro w'
                          go_simp
                          with_reducible rfl
                        rotate_left
                        · simp only [Act.put, List.setIfInBounds_toArray, List.set_cons_zero, List.set_cons_succ, i64_w, i32_w]
                          rfl
                        refine last_ (i := 10) (N := none) #[true, true, true, true, true, true, true, true, true, true, true] rfl rfl (one_of HT_.out (by kernel_rfl)) (by decide) (fun K hK => ?_)
                        refine skip_ (w1 := ?_) (by rfl) rfl ?_ ?_
                        rotate_left
                        · go_simp
                          rfl
                        refine hK.out _ _ ?_
                        clear hK K
                        refine done_ (done_of HT_.out (by kernel_rfl)) ?_
                        try go_wp2
                        (try simp only [← hl3_1])
                        go_roundg k1
                        case measure => have := HK1.out; omega
                        case rel => exact ⟨(y119), (x4_1), (wrap64 (x17_1 + 1)), (by first | rfl | (simp; done) | (simp [*]; done)), (by first | rfl | (simp; done) | (simp [*]; done)), H', ⟨by have := HK1.out; omega⟩, ⟨by (try simp only [hl3_1]); (with_reducible repeat (first | apply Kd.R_alloc | apply Kd.R_drewN | apply Kd.R_drew)); exact Kd.R_mono HQ30.out (fun _ hk => trivial)⟩, ⟨by repeat (first | (with_reducible first | exact HB.out | apply below_alloc | apply pw_below_drewN | apply below_drew1 | refine below_set ?_ GB19.out | refine below_set ?_ GE114.out) | exact HB.out)⟩⟩
                      · rw [if_neg c20] at H
                        exact absurd H (by simp)
                    · rw [if_neg c18] at H
                      have c18b0 : (((rd_T31 x3_1 x17_1).f0) == ((rd_T31 x3_1 x4_1).f0)) = false := beq_eq_false_iff_ne.mpr c18
                      have c18b1 : (((rd_T31 x3_1 x17_1).f0) != ((rd_T31 x3_1 x4_1).f0)) = true := bne_iff_ne.mpr c18
                      obtain ⟨ji31, hji31⟩ : ∃ j_ : Int, (wrap64 (x4_1 + 1)) = j_ := ⟨_, rfl⟩
                      replace H : (if 0 ≤ (ji31) then (if (ji31) < (x3_1.length : Int) then (normal_Of.l0 k1 (x3_1.set ((ji31) : Int).toNat (⟨(rd_T31 x3_1 x17_1).f0, (rd_T31 x3_1 x17_1).f1, (rd_T31 x3_1 x17_1).f2⟩ : S31)) ji31 (t107.length : Int) (wrap64 (x17_1 + 1))) else (none)) else (none)) = some r := by first | (rw [hji31] at H; exact H) | (simp only [hji31] at H ⊢; exact H)
                      have hji31w : (IntKind.i64.wrap (x4_1 + 1)) = ji31 := (i64_w _).trans hji31
                      by_cases c32 : 0 ≤ (ji31)
                      · rw [if_pos c32] at H
                        have c32b0 : decide (0 ≤ (ji31)) = true := decide_eq_true c32
                        clear c32
                        by_cases c33 : (ji31) < (x3_1.length : Int)
                        · rw [if_pos c33] at H
                          have c33b0 : decide ((ji31) < (x3_1.length : Int)) = true := decide_eq_true c33
                          clear c33
                          obtain ⟨y120, hy120⟩ : ∃ y_ : List (S31), y_ = (x3_1.set ((ji31) : Int).toNat (⟨(rd_T31 x3_1 x17_1).f0, (rd_T31 x3_1 x17_1).f1, (rd_T31 x3_1 x17_1).f2⟩ : S31)) := ⟨_, rfl⟩
                          replace H : (normal_Of.l0 k1 y120 ji31 (t107.length : Int) (wrap64 (x17_1 + 1))) = some r := by first | (rw [hy120]; with_reducible exact H) | (have H2_ := (Option.bind_some _ _).symm.trans H; rw [hy120]; with_reducible exact H2_) | (have H2_ := (Option.bind_some _ _).symm.trans H; with_reducible exact H2_) | with_reducible exact H | (rw [hy120]; exact H) | exact H
                          have Ny120 := Aside0.mk hy120
                          clear hy120
                          have H' := Aside0.mk H
                          clear H
                          have p113 : 0 ≤ (x17_1 : Int) := of_decide_eq_true (by first | (with_reducible assumption) | assumption)
                          have q113 : x17_1 < (x3_1.length : Int) := of_decide_eq_true (by first | (with_reducible assumption) | assumption)
                          obtain ⟨ad113, e113, hx113_0, hx113_1, hx113_2⟩ := at_T31 (Kd.R_reads' HO_3.out).2.2 x17_1 p113 q113
                          cases e113
                          replace p113 := eq_true p113
                          replace q113 := eq_true q113
                          try go_wp2_with (first | ((with_reducible refine gate_dst (N := 6) rfl ?_); refine box_event ?hg (N := 6) ?hd (cs := #[.int .i64 0, .int .i64 0, .string (⟨#[]⟩ : ByteArray)]) (t := 31) ?hr ?_; (case hd => rfl); (case hg => rfl); (case hr => first | (go_simp; done) | (go_simp; rfl)); intro gb114 hg w35 hbox hb; have n0_ := Aside0.mk (Kd.R_below (Kd.R_elderB (by (with_reducible repeat (first | apply Kd.R_alloc | apply Kd.R_drewN | apply Kd.R_drew)); exact HO_3.out) gb114 (Nat.le_of_eq hg.symm)) hb); have n1_ := Aside0.mk (below_step (by repeat (first | (with_reducible first | exact HB.out | apply below_alloc | apply pw_below_drewN | apply below_drew1) | exact HB.out)) hb); have n2_ := Aside0.mk (hbox); have n3_ := Aside0.mk ((by rw [hg]; exact (below_size (by repeat (first | (with_reducible first | exact HB.out | apply below_alloc | apply pw_below_drewN | apply below_drew1) | exact HB.out))) : w.heap.size ≤ gb114)); have n4_ := Aside0.mk ((by rw [hg]; exact (below_size (by repeat (first | (with_reducible first | exact HB.out | apply below_alloc | apply pw_below_drewN | apply below_drew1) | exact HB.out))) : w.heap.size ≤ gb114)); clear HO_3; clear HB; have HO_3 := n0_; have HB := n1_; have BK114 := n2_; have GW114 := n3_; have GE114 := n4_; clear n0_ n1_ n2_ n3_ n4_; clear hb hbox hg; have hcz36_0 : w35.cell? ⟨gb114, 0, none⟩ = some (.int .i64 0) := (blk_cell BK114.out 0).trans rfl; have hcz36_1 : w35.cell? ⟨gb114, 1, none⟩ = some (.int .i64 0) := (blk_cell BK114.out 1).trans rfl; have hcz36_2 : w35.cell? ⟨gb114, 2, none⟩ = some (.string (⟨#[]⟩ : ByteArray)) := (blk_cell BK114.out 2).trans rfl; have hfz36_0 := blk_frozen BK114.out 0; have hfz36_1 := blk_frozen BK114.out 1; have hfz36_2 := blk_frozen BK114.out 2))
                          have n0_ : Aside0 (Kd.R k31 31 (((w35.setCell ⟨gb114, 0, none⟩ (.int .i64 ((rd_T31 x3_1 x17_1).f0))).setCell ⟨gb114, 1, none⟩ (.int .i64 ((rd_T31 x3_1 x17_1).f1))).setCell ⟨gb114, 2, none⟩ (.string ((rd_T31 x3_1 x17_1).f2))) w.heap.size (fun k_ => k_ ≠ gb114) (.slice (some ad113) x3_1.length co9) x3_1) := ⟨by (with_reducible repeat (first | apply Kd.R_alloc | apply Kd.R_drewN | apply Kd.R_drew)); exact Kd.R_mono (Kd.R_far (p := ⟨gb114, 2, none⟩) (Kd.R_far (p := ⟨gb114, 1, none⟩) (Kd.R_far (p := ⟨gb114, 0, none⟩) (Kd.R_mono HO_3.out (fun k_ hk => (⟨hk, hk.2⟩ : _ ∧ k_ ≠ gb114))) (fun _ hk => hk.2) (.int .i64 ((rd_T31 x3_1 x17_1).f0))) (fun _ hk => hk.2) (.int .i64 ((rd_T31 x3_1 x17_1).f1))) (fun _ hk => hk.2) (.string ((rd_T31 x3_1 x17_1).f2))) (fun _ hk => hk.1.2)⟩
                          have n1_ : Aside0 ((((w35.setCell ⟨gb114, 0, none⟩ (.int .i64 ((rd_T31 x3_1 x17_1).f0))).setCell ⟨gb114, 1, none⟩ (.int .i64 ((rd_T31 x3_1 x17_1).f1))).setCell ⟨gb114, 2, none⟩ (.string ((rd_T31 x3_1 x17_1).f2))).heap[gb114]? = some (.cells #[.int .i64 ((rd_T31 x3_1 x17_1).f0), .int .i64 ((rd_T31 x3_1 x17_1).f1), .string ((rd_T31 x3_1 x17_1).f2)] 31 (0, 0))) := ⟨by (with_reducible repeat (first | refine blk_drewN ?_ _ | refine blk_drew ?_ | refine blk_alloc ?_ _)); refine blk_put (cs := #[.int .i64 ((rd_T31 x3_1 x17_1).f0), .int .i64 ((rd_T31 x3_1 x17_1).f1), .string (⟨#[]⟩ : ByteArray)]) ?_ 2 _ rfl; (with_reducible repeat (first | refine blk_drewN ?_ _ | refine blk_drew ?_ | refine blk_alloc ?_ _)); refine blk_put (cs := #[.int .i64 ((rd_T31 x3_1 x17_1).f0), .int .i64 0, .string (⟨#[]⟩ : ByteArray)]) ?_ 1 _ rfl; (with_reducible repeat (first | refine blk_drewN ?_ _ | refine blk_drew ?_ | refine blk_alloc ?_ _)); refine blk_put (cs := #[.int .i64 0, .int .i64 0, .string (⟨#[]⟩ : ByteArray)]) ?_ 0 _ rfl; (with_reducible repeat (first | refine blk_drewN ?_ _ | refine blk_drew ?_ | refine blk_alloc ?_ _)); exact BK114.out⟩
                          have n2_ : Aside0 (Below w.heap.size w (((w35.setCell ⟨gb114, 0, none⟩ (.int .i64 ((rd_T31 x3_1 x17_1).f0))).setCell ⟨gb114, 1, none⟩ (.int .i64 ((rd_T31 x3_1 x17_1).f1))).setCell ⟨gb114, 2, none⟩ (.string ((rd_T31 x3_1 x17_1).f2)))) := ⟨by repeat (first | (with_reducible first | exact HB.out | apply below_alloc | apply pw_below_drewN | apply below_drew1 | refine below_set ?_ GE114.out) | exact HB.out)⟩
                          (try clear HO_3)
                          (try clear BK114)
                          (try clear HB)
                          generalize (((w35.setCell ⟨gb114, 0, none⟩ (.int .i64 ((rd_T31 x3_1 x17_1).f0))).setCell ⟨gb114, 1, none⟩ (.int .i64 ((rd_T31 x3_1 x17_1).f1))).setCell ⟨gb114, 2, none⟩ (.string ((rd_T31 x3_1 x17_1).f2))) = w37 at n0_ n1_ n2_ ⊢
                          have HO_3 := n0_
                          have BK114 := n1_
                          have HB := n2_
                          clear n0_ n1_ n2_
                          have n0_ := Aside0.mk (Kd.R_drew HO_3.out)
                          have n1_ := Aside0.mk (blk_drew BK114.out)
                          have n2_ := Aside0.mk (below_drew1 HB.out)
                          clear HO_3
                          clear BK114
                          clear HB
                          have HO_3 := n0_
                          have BK114 := n1_
                          have HB := n2_
                          clear n0_ n1_ n2_
                          have p115 : 0 ≤ (x4_1 : Int) := of_decide_eq_true (by first | (with_reducible assumption) | assumption)
                          have q115 : x4_1 < (x3_1.length : Int) := of_decide_eq_true (by first | (with_reducible assumption) | assumption)
                          obtain ⟨ad115, e115, hx115_0, hx115_1, hx115_2⟩ := at_T31 (Kd.R_reads' HO_3.out).2.2 x4_1 p115 q115
                          obtain rfl : ad113 = ad115 := (by injection e115)
                          replace p115 := eq_true p115
                          replace q115 := eq_true q115
                          refine start_ (n := 9) (S := fun w' => w'.cell? ⟨gb114, 0, none⟩ = some (.int .i64 ((rd_T31 x3_1 x17_1).f0)) ∧ w'.cell? ⟨gb114, 1, none⟩ = some (.int .i64 ((rd_T31 x3_1 x17_1).f1)) ∧ w'.cell? ⟨gb114, 2, none⟩ = some (.string ((rd_T31 x3_1 x17_1).f2)) ∧ w'.cell? (ad113.add ((x4_1).toNat * 3)) = some (.int .i64 ((rd_T31 x3_1 x4_1).f0)) ∧ w'.cell? ⟨(ad113.add ((x4_1).toNat * 3)).block, (ad113.add ((x4_1).toNat * 3)).off + 1, none⟩ = some (.int .i64 ((rd_T31 x3_1 x4_1).f1)) ∧ w'.cell? ⟨(ad113.add ((x4_1).toNat * 3)).block, (ad113.add ((x4_1).toNat * 3)).off + 2, none⟩ = some (.string ((rd_T31 x3_1 x4_1).f2))) (ds := []) #[false, false, false, false, false, false, false, false, false] (by kernel_rfl) rfl rfl ⟨(blk_cell BK114.out 0).trans rfl, (blk_cell BK114.out 1).trans rfl, (blk_cell BK114.out 2).trans rfl, hx115_0, hx115_1, hx115_2⟩ (fun hHeld => ?_); refine with_tabW normal_Of.tab11 normal_Of.bits11 (fun HT_ HW_ => ?_)
                          generalize w37.drew = w38 at HO_3 BK114 HB hx115_0 hx115_1 hx115_2 hHeld ⊢
                          refine pure_ (i := 0) (N := some 32) (v := ?_) (a' := ?_) #[true, false, false, false, false, false, false, false, false] rfl rfl (any_of HT_.out (by kernel_rfl)) (fun _ _ _ h => h) (Or.inl ⟨by rfl, ?_⟩) ?_ ?_
                          rotate_left
                          · intro w'
                            go_simp
                            with_reducible rfl
                          rotate_left
                          · simp only [Act.put, List.setIfInBounds_toArray, List.set_cons_zero, List.set_cons_succ, i64_w, i32_w]
                            rfl
                          refine pure_ (i := 2) (N := some 34) (v := ?_) (a' := ?_) #[true, false, true, false, false, false, false, false, false] rfl rfl (any_of HT_.out (by kernel_rfl)) (fun _ _ _ h => h) (Or.inl ⟨by rfl, ?_⟩) ?_ ?_
                          rotate_left
                          · intro w'
                            go_simp
                            with_reducible rfl
                          rotate_left
                          · simp only [Act.put, List.setIfInBounds_toArray, List.set_cons_zero, List.set_cons_succ, i64_w, i32_w]
                            rfl
                          refine pure_ (i := 3) (N := some 35) (v := ?_) (a' := ?_) #[true, false, true, true, false, false, false, false, false] rfl rfl (any_of HT_.out (by kernel_rfl)) (fun _ _ _ h => h) (Or.inl ⟨by rfl, ?_⟩) ?_ ?_
                          rotate_left
                          · intro w'
                            go_simp
                            with_reducible rfl
                          rotate_left
                          · simp only [Act.put, List.setIfInBounds_toArray, List.set_cons_zero, List.set_cons_succ, i64_w, i32_w]
                            rfl
                          refine pure_ (i := 4) (N := some 36) (v := ?_) (a' := ?_) #[true, false, true, true, true, false, false, false, false] rfl rfl (any_of HT_.out (by kernel_rfl)) (fun _ _ _ h => h) (Or.inl ⟨by rfl, ?_⟩) ?_ ?_
                          rotate_left
                          · intro w'
                            go_simp
                            with_reducible rfl
                          rotate_left
                          · simp only [Act.put, List.setIfInBounds_toArray, List.set_cons_zero, List.set_cons_succ, i64_w, i32_w]
                            rfl
                          refine pure_ (i := 5) (N := some 37) (v := ?_) (a' := ?_) #[true, false, true, true, true, true, false, false, false] rfl rfl (any_of HT_.out (by kernel_rfl)) (fun _ _ _ h => h) (Or.inl ⟨by rfl, ?_⟩) ?_ ?_
                          rotate_left
                          · intro w'
                            go_simp
                            with_reducible rfl
                          rotate_left
                          · simp only [Act.put, List.setIfInBounds_toArray, List.set_cons_zero, List.set_cons_succ, i64_w, i32_w]
                            rfl
                          refine take_ (i := 1) (N := some 33) (v := ?_) (a' := ?_) #[true, true, true, true, true, true, false, false, false] rfl rfl (take_ofW HT_.out HW_.out (by kernel_rfl)) (fun _ _ _ h => h) (Or.inl ⟨by rfl, ?_⟩) hHeld ?_ ?_
                          rotate_left
                          · rintro w' ⟨s0, s1, s2, s3, s4, s5⟩
                            go_simp
                            with_reducible rfl
                          rotate_left
                          · simp only [Act.put, List.setIfInBounds_toArray, List.set_cons_zero, List.set_cons_succ, i64_w, i32_w]
                            rfl
                          refine take_ (i := 6) (N := some 38) (v := ?_) (a' := ?_) #[true, true, true, true, true, true, true, false, false] rfl rfl (take_ofW HT_.out HW_.out (by kernel_rfl)) (fun _ _ _ h => h) (Or.inl ⟨by rfl, ?_⟩) hHeld ?_ ?_
                          rotate_left
                          · rintro w' ⟨s0, s1, s2, s3, s4, s5⟩
                            go_simp
                            with_reducible rfl
                          rotate_left
                          · simp only [Act.put, List.setIfInBounds_toArray, List.set_cons_zero, List.set_cons_succ, i64_w, i32_w]
                            rfl
                          refine pure_ (i := 7) (N := some 39) (v := ?_) (a' := ?_) #[true, true, true, true, true, true, true, true, false] rfl rfl (any_of HT_.out (by kernel_rfl)) (fun _ _ _ h => h) (Or.inl ⟨by rfl, ?_⟩) ?_ ?_
                          rotate_left
                          · intro w'
                            go_simp
                            with_reducible rfl
                          rotate_left
                          · simp only [Act.put, List.setIfInBounds_toArray, List.set_cons_zero, List.set_cons_succ, i64_w, i32_w]
                            rfl
                          refine pure_ (i := 8) (N := some 31) (v := ?_) (a' := ?_) #[true, true, true, true, true, true, true, true, true] rfl rfl (any_of HT_.out (by kernel_rfl)) (fun _ _ _ h => h) (Or.inl ⟨by rfl, ?_⟩) ?_ ?_
                          rotate_left
                          · intro w'
                            go_simp
                            with_reducible rfl
                          rotate_left
                          · simp only [Act.put, List.setIfInBounds_toArray, List.set_cons_zero, List.set_cons_succ, i64_w, i32_w]
                            rfl
                          refine done_ (done_of HT_.out (by kernel_rfl)) ?_
                          have hcz39_0 : w38.cell? ⟨gb114, 0, none⟩ = some (.int .i64 ((rd_T31 x3_1 x17_1).f0)) := (blk_cell BK114.out 0).trans rfl
                          have hcz39_1 : w38.cell? ⟨gb114, 1, none⟩ = some (.int .i64 ((rd_T31 x3_1 x17_1).f1)) := (blk_cell BK114.out 1).trans rfl
                          have hcz39_2 : w38.cell? ⟨gb114, 2, none⟩ = some (.string ((rd_T31 x3_1 x17_1).f2)) := (blk_cell BK114.out 2).trans rfl
                          have hfz39_0 := blk_frozen BK114.out 0
                          have hfz39_1 := blk_frozen BK114.out 1
                          have hfz39_2 := blk_frozen BK114.out 2
                          have p34 : 0 ≤ ((ji31) : Int) := of_decide_eq_true (by first | (with_reducible assumption) | assumption)
                          have q34 : ((ji31) : Int) < ((x3_1.length : Int) : Int) := of_decide_eq_true (by first | (with_reducible assumption) | assumption)
                          obtain ⟨go34, co34, eo34, gb34, gl34, cl34, HG34⟩ := Kd.R_form HO_3.out (by omega)
                          (first | cases eo34 | (injection eo34 with ea_ en_ ec_; (first | subst ea_ | (injection ea_ with ea_; subst ea_)); subst ec_; clear en_))
                          have GB34 := Aside0.mk gb34
                          have GG34 := Aside0.mk HG34
                          clear gb34 gl34 HG34
                          (first | simp only [add_plain] at hx113_0 | skip)
                          (first | simp only [add_plain] at hx113_1 | skip)
                          (first | simp only [add_plain] at hx113_2 | skip)
                          (first | simp only [add_plain] at hx115_0 | skip)
                          (first | simp only [add_plain] at hx115_1 | skip)
                          (first | simp only [add_plain] at hx115_2 | skip)
                          obtain ⟨ce34, hcl34, hM34, hcc34, hfr34⟩ := Kd.R_elem HO_3.out z31 ((ji31) : Int) p34 q34
                          obtain rfl := k31_openM hM34
                          have hx34_0 : w38.cell? ⟨go34, ((ji31) : Int).toNat * 3, none⟩ = some (.int .i64 ((rd_T31 x3_1 (ji31)).f0)) := hcc34 0 _ rfl
                          have hx34_1 : w38.cell? ⟨go34, ((ji31) : Int).toNat * 3 + 1, none⟩ = some (.int .i64 ((rd_T31 x3_1 (ji31)).f1)) := hcc34 1 _ rfl
                          have hx34_2 : w38.cell? ⟨go34, ((ji31) : Int).toNat * 3 + 2, none⟩ = some (.string ((rd_T31 x3_1 (ji31)).f2)) := hcc34 2 _ rfl
                          have hf34_0 : w38.frozen? ⟨go34, ((ji31) : Int).toNat * 3, none⟩ = false := hfr34 0
                          have hf34_1 : w38.frozen? ⟨go34, ((ji31) : Int).toNat * 3 + 1, none⟩ = false := hfr34 1
                          have hf34_2 : w38.frozen? ⟨go34, ((ji31) : Int).toNat * 3 + 2, none⟩ = false := hfr34 2
                          clear hcl34 hcc34 hfr34 hM34
                          replace p34 := eq_true p34
                          replace q34 := eq_true q34
                          have HX40 := Aside0.mk (show Kd.R k31 31 w38 w.heap.size (fun k_ => k_ ≠ gb114) (.slice (some ⟨go34, 0, none⟩) x3_1.length co9) x3_1 from (by (with_reducible repeat (first | apply Kd.R_alloc | apply Kd.R_drewN | apply Kd.R_drew)); exact HO_3.out))
                          obtain ⟨ce40, hcl40, hM40, hcc40, hfr40⟩ := Kd.R_elem HX40.out z31 ((ji31) : Int) (of_decide_eq_true (by first | (with_reducible assumption) | assumption)) (by have h_ : ((ji31) : Int) < ((x3_1.length : Int) : Int) := of_decide_eq_true (by first | (with_reducible assumption) | assumption); first | exact h_ | (have e_ := (Kd.R_reads' HO_3.out).1; omega) | simpa using h_)
                          obtain rfl := k31_openM hM40
                          have HP40 := Kd.R_seg HX40.out ((ji31) : Int) (of_decide_eq_true (by first | (with_reducible assumption) | assumption)) (by have h_ : ((ji31) : Int) < ((x3_1.length : Int) : Int) := of_decide_eq_true (by first | (with_reducible assumption) | assumption); first | exact h_ | (have e_ := (Kd.R_reads' HO_3.out).1; omega) | simpa using h_) (seg := [.int .i64 ((rd_T31 x3_1 x17_1).f0), .int .i64 ((rd_T31 x3_1 x17_1).f1), .string ((rd_T31 x3_1 x17_1).f2)]) (j := 0) hcl40 hcc40 (show 3 ≤ 3 from by decide) (x' := (⟨(rd_T31 x3_1 x17_1).f0, (rd_T31 x3_1 x17_1).f1, (rd_T31 x3_1 x17_1).f2⟩ : S31)) (k31_mkM _ _ _ (⟨(rd_T31 x3_1 x17_1).f0, (rd_T31 x3_1 x17_1).f1, (rd_T31 x3_1 x17_1).f2⟩ : S31) ) (fun _ hk => hk)
                          have hx40_0 := hcc40 0 _ rfl
                          (try simp only [show (k31).sz = 3 from rfl, Nat.mul_one, Nat.add_zero] at hx40_0)
                          have hf40_0 := hfr40 0
                          (try simp only [show (k31).sz = 3 from rfl, Nat.mul_one, Nat.add_zero] at hf40_0)
                          have hx40_1 := hcc40 1 _ rfl
                          (try simp only [show (k31).sz = 3 from rfl, Nat.mul_one, Nat.add_zero] at hx40_1)
                          have hf40_1 := hfr40 1
                          (try simp only [show (k31).sz = 3 from rfl, Nat.mul_one, Nat.add_zero] at hf40_1)
                          have hx40_2 := hcc40 2 _ rfl
                          (try simp only [show (k31).sz = 3 from rfl, Nat.mul_one, Nat.add_zero] at hx40_2)
                          have hf40_2 := hfr40 2
                          (try simp only [show (k31).sz = 3 from rfl, Nat.mul_one, Nat.add_zero] at hf40_2)
                          clear hcl40 hcc40 hfr40 hM40
                          try go_wp2_with (first | ((with_reducible refine gate_store (t := 31) (p := 27) rfl ?_); refine store_event (t := 31) (p := 27) (v := ?vo_w41) (w1 := (((w38.setCell ⟨go34, ((ji31) : Int).toNat * 3, none⟩ (.int .i64 ((rd_T31 x3_1 x17_1).f0))).setCell ⟨go34, ((ji31) : Int).toNat * 3 + 1, none⟩ (.int .i64 ((rd_T31 x3_1 x17_1).f1))).setCell ⟨go34, ((ji31) : Int).toNat * 3 + 2, none⟩ (.string ((rd_T31 x3_1 x17_1).f2)))) ?hg ?ho ?hn ?hr ?_; (case ho => rfl); (case hg => rfl); (case hn => rfl); (case hr => first | (go_simp; done) | (go_simp; rfl)); intro w41 hw; have hg : w38.grownBy w41 (some go34) := (by rw [hw]; exact HP40.2); have hp_ : Kd.R k31 31 w41 w.heap.size (fun k_ => k_ ≠ gb114) (.slice (some ⟨go34, 0, none⟩) x3_1.length co9) y120 := (by rw [hw, Ny120.out]; exact HP40.1); clear HP40; have n0_ := Aside0.mk (hp_); have n1_ := Aside0.mk (blk_grown (g := gb114) (o := .cells #[.int .i64 ((rd_T31 x3_1 x17_1).f0), .int .i64 ((rd_T31 x3_1 x17_1).f1), .string ((rd_T31 x3_1 x17_1).f2)] 31 (0, 0)) (by (with_reducible repeat (first | refine blk_drewN ?_ _ | refine blk_drew ?_ | refine blk_alloc ?_ _)); exact BK114.out) hg (Kd.R_away HO_3.out (fun _ hk => hk))); have n2_ := Aside0.mk ((by rw [hw]; exact below_set (below_set (below_set (HB.out) GB34.out) GB34.out) GB34.out : Below w.heap.size w w41)); clear HO_3; clear BK114; clear HB; have HO_3 := n0_; have BK114 := n1_; have HB := n2_; clear n0_ n1_ n2_; clear hg hw hp_))
                          (try simp only [← hl3_1])
                          go_roundg k1
                          case measure => have := HK1.out; omega
                          case rel => exact ⟨(y120), (ji31), (wrap64 (x17_1 + 1)), (by first | rfl | (simp; done) | (simp only [← hji31] <;> (first | rfl | simp)) | (simp [*]; done)), (by first | rfl | (simp; done) | (simp [*]; done)), H', ⟨by have := HK1.out; omega⟩, ⟨by (try simp only [hl3_1]); (with_reducible repeat (first | apply Kd.R_alloc | apply Kd.R_drewN | apply Kd.R_drew)); exact Kd.R_mono HO_3.out (fun _ hk => trivial)⟩, ⟨by repeat (first | (with_reducible first | exact HB.out | apply below_alloc | apply pw_below_drewN | apply below_drew1 | refine below_set ?_ GE114.out) | exact HB.out)⟩⟩
                        · rw [if_neg c33] at H
                          exact absurd H (by simp)
                      · rw [if_neg c32] at H
                        exact absurd H (by simp)
                  · rw [if_neg c17] at H
                    exact absurd H (by simp)
                · rw [if_neg c16] at H
                  exact absurd H (by simp)
            · rw [if_neg c12] at H
              exact absurd H (by simp)
          · rw [if_neg c11] at H
            exact absurd H (by simp)
        · rw [if_neg c10] at H
          have c10b0 : decide (x17_1 < (t107.length : Int)) = false := decide_eq_false c10
          (try simp only [hl3_1] at c10b0)
          clear c10
          obtain ⟨ji42, hji42⟩ : ∃ j_ : Int, (mn (wrap64 (x4_1 + 1)) (x3_1.length : Int)) = j_ := ⟨_, rfl⟩
          replace H : (if 0 ≤ (ji42) then (if (ji42) ≤ (x3_1.length : Int) then (some (x3_1.take ((ji42) : Int).toNat)) else (none)) else (none)) = some r := by first | (rw [hji42] at H; exact H) | (simp only [hji42] at H ⊢; exact H)
          have hji42_ : (if (x3_1.length : Int) < (wrap64 (x4_1 + 1)) then (x3_1.length : Int) else (wrap64 (x4_1 + 1))) = ji42 := hji42
          by_cases c43 : 0 ≤ (ji42)
          · rw [if_pos c43] at H
            have c43b0 := eq_true c43
            have c43b1 : decide (0 ≤ (ji42)) = true := decide_eq_true c43
            clear c43
            by_cases c44 : (ji42) ≤ (x3_1.length : Int)
            · rw [if_pos c44] at H
              have c44b0 := eq_true c44
              have c44b1 : decide ((ji42) ≤ (x3_1.length : Int)) = true := decide_eq_true c44
              clear c44
              obtain ⟨y110, hy110⟩ : ∃ y_ : List (S31), y_ = (x3_1.take ((ji42) : Int).toNat) := ⟨_, rfl⟩
              replace H : (some y110) = some r := by first | (rw [hy110]; with_reducible exact H) | (have H2_ := (Option.bind_some _ _).symm.trans H; rw [hy110]; with_reducible exact H2_) | (have H2_ := (Option.bind_some _ _).symm.trans H; with_reducible exact H2_) | with_reducible exact H | (rw [hy110]; exact H) | exact H
              have Ny110 := Aside0.mk hy110
              clear hy110
              obtain rfl := Option.some.inj H
              have q45 : ((ji42) : Int) ≤ ((x3_1.length : Int) : Int) := of_decide_eq_true (by first | (with_reducible assumption) | assumption)
              obtain ⟨i045, hi045, _, hsz45, _⟩ := info_parts info31
              have hcut45 := cut_to (P := Try.prog) 22 31 .i64 Try.underlying22 hi045 Ao9 x3_1.length co9 (ji42) (of_decide_eq_true (by first | (with_reducible assumption) | assumption)) q45 (Kd.R_reads' HO_3.out).2.1
              have hr45 := Kd.R_take (m := ((ji42) : Int).toNat) HO_3.out (by omega)
              have hy45 : y110.length = ((ji42) : Int).toNat := (by rw [Ny110.out, List.length_take]; omega)
              rw [← Ny110.out] at hr45
              rw [← hy45] at hr45 hcut45
              clear hy45 hi045 hsz45 HO_3
              have HO112 := Aside0.mk hr45
              clear hr45
              replace q45 := eq_true q45
              go_wp2
              go_ret
              exact ⟨_, by first | rfl | (simp [errW_none, errW_some] <;> rfl) | (simp only [← hji42]; first | rfl | (simp [errW_none, errW_some] <;> rfl)) | (simp [*, errW_none, errW_some] <;> rfl), by (with_reducible repeat (first | apply Kd.R_alloc | apply Kd.R_drewN | apply Kd.R_drew)); exact HO112.out, by repeat (first | (with_reducible first | exact HB.out | apply below_alloc | apply pw_below_drewN | apply below_drew1) | exact HB.out)⟩
            · rw [if_neg c44] at H
              exact absurd H (by simp)
          · rw [if_neg c43] at H
            exact absurd H (by simp)
  · rw [if_neg c2] at H
    exact absurd H (by simp)

end Go.Proofs.Ytidmodnfodifgaa.F
