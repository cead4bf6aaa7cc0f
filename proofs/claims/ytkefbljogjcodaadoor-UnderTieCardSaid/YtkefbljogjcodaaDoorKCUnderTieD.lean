import Derived.Test.YtkefbljogjcodaaDoorKCUnderTieC
import Derived.Below
import Derived.Deep.Draws
import Derived.Deep.AppendLies
import Derived.Maps.AppendAt
import Derived.OwnWalk
import Derived.Laws.BytesArg
import Derived.Laws.MakeOwn
import Derived.Laws.OwnMore
import Derived.Deep.OwnRows
import Derived.Tactics
import Derived.Lib.ConvBytes
import Derived.Laws.Slices
import Derived.WalkKit
import Derived.KernelRfl
import Derived.RowKit3
import Derived.Deep.LoopGhost
import Derived.Deep.QuietTactic
import Derived.BigQuiet
import Derived.WideLaws
import Derived.Deep.DeepCutAuto
import Derived.Deep.CutBlock
import Derived.Deep.RegionHeld3
import Derived.Laws.Rows
import Derived.Lib.AppendStr
import Derived.ArgAppend
import Derived.Laws.IdiomCopy
import Derived.RowKit
import Derived.OrdersHeld
import Derived.Laws.BitsLemmas
import Derived.Laws.StructEq
import Derived.Test.YtkefbljogjcodaaDoorProg
import Derived.Handy
import Derived.Shelf.Unicode.DecodeSlow
import Derived.Ground.NamesProg
import Derived.Shelf.Unicode.ValidAny
import Derived.Laws.RangeString
import Derived.Laws.RangeAny
import Derived.Lib.RuneCount
import Derived.Laws.IdiomStrings
import Derived.Laws.Cover4
import Derived.Great.BuildSlice
import Derived.Defers
import Derived.Laws.EntriesVeiled
section
namespace Go.Proofs.YtkefbljogjcodaaDoor.F
open Go.RowKit Go.Proofs.YtkefbljogjcodaaDoorW.PrintWords Go.Proofs.YtkefbljogjcodaaDoorW.PrintLast Go.Proofs.YtkefbljogjcodaaDoorW.PrintMore
attribute [local go_sem] max2_int min2_int max_two min_two max_three min_three max_four min_four cell_setCell_isSome
set_option linter.unusedVariables false
set_option linter.unusedSimpArgs false
def epitomeref01_Of.l0 : Nat → List Int → List Int → Int → Option (ByteArray)
  | 0, _, _, _ => none
  | k + 1, x0, x3, x4 => if x4 < (x0.length : Int) then (if 0 ≤ x4 then ((epitomeref01_size.f k (wrap64 (rd x0 x4))).bind fun t105 => (if t105 = 1 then (if x3.length < 140737488355328 then (epitomeref01_Of.l0 k x0 (x3 ++ [(wrap64 (rd x0 x4)) % 256]) (wrap64 (x4 + 1))) else (none)) else (if t105 = 2 then ((some (([(wrap64 (192 + (wrap64 (Int.tdiv (wrap64 (rd x0 x4)) 64)))) % 256, (wrap64 (128 + (Int.tmod (wrap64 (rd x0 x4)) 64))) % 256] : List Int) : List Int)).bind fun y109 => (if x3.length + y109.length < 140737488355328 then (epitomeref01_Of.l0 k x0 (x3 ++ y109) (wrap64 (x4 + 1))) else (none))) else (if t105 = 3 then ((some (([(wrap64 (224 + (wrap64 (Int.tdiv (wrap64 (rd x0 x4)) 4096)))) % 256, (wrap64 (128 + (Int.tmod (wrap64 (Int.tdiv (wrap64 (rd x0 x4)) 64)) 64))) % 256, (wrap64 (128 + (Int.tmod (wrap64 (rd x0 x4)) 64))) % 256] : List Int) : List Int)).bind fun y115 => (if x3.length + y115.length < 140737488355328 then (epitomeref01_Of.l0 k x0 (x3 ++ y115) (wrap64 (x4 + 1))) else (none))) else (if t105 = 4 then ((some (([(wrap64 (240 + (wrap64 (Int.tdiv (wrap64 (rd x0 x4)) 262144)))) % 256, (wrap64 (128 + (Int.tmod (wrap64 (Int.tdiv (wrap64 (rd x0 x4)) 4096)) 64))) % 256, (wrap64 (128 + (Int.tmod (wrap64 (Int.tdiv (wrap64 (rd x0 x4)) 64)) 64))) % 256, (wrap64 (128 + (Int.tmod (wrap64 (rd x0 x4)) 64))) % 256] : List Int) : List Int)).bind fun y121 => (if x3.length + y121.length < 140737488355328 then (epitomeref01_Of.l0 k x0 (x3 ++ y121) (wrap64 (x4 + 1))) else (none))) else (epitomeref01_Of.l0 k x0 x3 (wrap64 (x4 + 1)))))))) else (none)) else (some (strOfNums x3))
def epitomeref01_Of.f (k : Nat) (l0 : List Int) : Option (ByteArray) := epitomeref01_Of.l0 k l0 (([] : List Int)) 0
theorem epitomeref01_Of.mono_l : ∀ k, (∀ y0 y1 y2, LeO (epitomeref01_Of.l0 k y0 y1 y2) (epitomeref01_Of.l0 (k + 1) y0 y1 y2))
  | 0 => fun _ _ _ r h => by simp [epitomeref01_Of.l0] at h
  | k + 1 => by
    have ih0 := epitomeref01_Of.mono_l k
    · intro y0 y1 y2
      unfold epitomeref01_Of.l0
      repeat' first
      | (with_reducible exact ih0 _ _ _)
      | (with_reducible exact epitomeref01_size.mono _ _)
      | (with_reducible exact LeO.refl _)
      | (with_reducible exact LeO.none _)
      | (with_reducible refine LeO.ite ?_ ?_)
      | (with_reducible refine LeO.bind ?_ (fun _ => ?_))
      | exact ih0 _ _ _
      | exact epitomeref01_size.mono _ _
      | exact LeO.none _
      | refine LeO.ite ?_ ?_
      | refine LeO.bind ?_ (fun _ => ?_)
theorem epitomeref01_Of.mono : ∀ a0 k, LeO (epitomeref01_Of.f k a0) (epitomeref01_Of.f (k + 1) a0) := by
  intro a0 k
  have ih0 := epitomeref01_Of.mono_l k
  unfold epitomeref01_Of.f
  repeat' first
      | (with_reducible exact ih0 _ _ _)
      | (with_reducible exact epitomeref01_size.mono _ _)
      | (with_reducible exact LeO.refl _)
      | (with_reducible exact LeO.none _)
      | (with_reducible refine LeO.ite ?_ ?_)
      | (with_reducible refine LeO.bind ?_ (fun _ => ?_))
      | exact ih0 _ _ _
      | exact epitomeref01_size.mono _ _
      | exact LeO.none _
      | refine LeO.ite ?_ ?_
      | refine LeO.bind ?_ (fun _ => ?_)
set_option maxHeartbeats 8000000 in
set_option maxRecDepth 100000 in
theorem epitomeref01_Of.calls (k : Nat) (A0 : Option Addr) (c0 : Nat) (l0 : List Int) (r : ByteArray) (w : World) (hr0 : Kd.C (Kd.int .i32) w A0 l0.length l0) (hc0 : l0.length ≤ c0) (h : epitomeref01_Of.f k l0 = some r) :
    Calls Tryd.prog 46 #[.slice A0 l0.length c0] w fun e w' => e = .returned (.string r) ∧ Below w.heap.size w w' := by
  have HR0 := Aside0.mk hr0
  have HC0 := Aside0.mk hc0
  clear hr0 hc0
  have HB := Aside0.mk (Below.refl w.heap.size w)
  have H : (epitomeref01_Of.l0 k l0 (([] : List Int)) 0) = some r := h
  clear h
  obtain ⟨y101, hy101⟩ : ∃ y_ : List Int, y_ = (([] : List Int)) := ⟨_, rfl⟩
  replace H : (epitomeref01_Of.l0 k l0 y101 0) = some r := by first | (rw [hy101]; with_reducible exact H) | (have H2_ := (Option.bind_some _ _).symm.trans H; rw [hy101]; with_reducible exact H2_) | (have H2_ := (Option.bind_some _ _).symm.trans H; with_reducible exact H2_) | with_reducible exact H | (rw [hy101]; exact H) | exact H
  have Ny101 := Aside0.mk hy101
  clear hy101
  have H' := Aside0.mk H
  clear H
  go_enter Tryd.func46, Tryd.ntmps46
  go_wp2_with (first | ((with_reducible refine gate_dst (N := 6) rfl ?_); refine Kd.R_lit (Kd.int .u8) _ 5 ?hg (N := 6) ?hd (xs := ([] : List Int)) (inner := []) (ok := fun _ => True) (okp := fun _ => True) ?hr ?hp (fun _ hk => hk) trivial (Below.refl _ _) (Nat.le_refl _) (by simp) ?_; (case hd => rfl); (case hg => rfl); (case hr => first | (go_simp; done) | (go_simp; rfl)); (case hp => exact (Reps.none _ _)); intro v102 w2 ho3 hb hg_ hnew_; clear hg_ hnew_; (first | rw [← Ny101.out] at ho3 | (simp only [Int.reduceToNat] at ho3; rw [← Ny101.out] at ho3)); have n0_ := Aside0.mk (Kd.R_lower ho3 (below_size (by repeat (first | (with_reducible first | exact HB.out | apply below_alloc | apply pw_below_drewN | apply below_drew1) | exact HB.out)))); have n1_ := Aside0.mk (below_step (by repeat (first | (with_reducible first | exact HB.out | apply below_alloc | apply pw_below_drewN | apply below_drew1) | exact HB.out)) hb); clear HB; have HO103 := n0_; have HB := n1_; clear n0_ n1_; clear hb ho3))
  go_loopg [3, 4] k (fun kq v3 v4 w' => ∃ (x3_1 : List Int) (x4_1 : Int), v4 = .int .i64 x4_1 ∧ Aside0 (epitomeref01_Of.l0 kq l0 x3_1 x4_1 = some r) ∧ Aside0 (kq ≤ k) ∧ Aside0 (Kd.R (Kd.int .u8) 5 w' w.heap.size (fun _ => True) v3 x3_1) ∧ Aside0 (Below w.heap.size w w'))
  case atStart => exact ⟨(y101), (0), (by first | rfl | (simp; done) | (simp [*]; done)), H', ⟨Nat.le_refl _⟩, ⟨by (with_reducible repeat (first | apply Kd.R_alloc | apply Kd.R_drewN | apply Kd.R_drew)); exact HO103.out⟩, ⟨by repeat (first | (with_reducible first | exact HB.out | apply below_alloc | apply pw_below_drewN | apply below_drew1) | exact HB.out)⟩⟩
  case round =>
    clear H'
    try clear p2
    obtain ⟨x3_1, x4_1, rfl, HA, HK1, HO_3, HB⟩ := hrel
    cases gk with
    | zero => exact absurd HA.out (by simp [epitomeref01_Of.l0])
    | succ k1 =>
      have H := HA.out
      clear HA
      simp only [epitomeref01_Of.l0] at H
      by_cases c4 : x4_1 < (l0.length : Int)
      · rw [if_pos c4] at H
        have c4b0 : decide (x4_1 < (l0.length : Int)) = true := decide_eq_true c4
        clear c4
        by_cases c5 : 0 ≤ x4_1
        · rw [if_pos c5] at H
          have c5b0 : decide (0 ≤ x4_1) = true := decide_eq_true c5
          clear c5
          replace H := Option.bind_eq_some_iff.mp H
          obtain ⟨t105, A60, H⟩ := H
          replace H : (if t105 = 1 then (if x3_1.length < 140737488355328 then (epitomeref01_Of.l0 k1 l0 (x3_1 ++ [(wrap64 (rd l0 x4_1)) % 256]) (wrap64 (x4_1 + 1))) else (none)) else (if t105 = 2 then ((some (([(wrap64 (192 + (wrap64 (Int.tdiv (wrap64 (rd l0 x4_1)) 64)))) % 256, (wrap64 (128 + (Int.tmod (wrap64 (rd l0 x4_1)) 64))) % 256] : List Int) : List Int)).bind fun y109 => (if x3_1.length + y109.length < 140737488355328 then (epitomeref01_Of.l0 k1 l0 (x3_1 ++ y109) (wrap64 (x4_1 + 1))) else (none))) else (if t105 = 3 then ((some (([(wrap64 (224 + (wrap64 (Int.tdiv (wrap64 (rd l0 x4_1)) 4096)))) % 256, (wrap64 (128 + (Int.tmod (wrap64 (Int.tdiv (wrap64 (rd l0 x4_1)) 64)) 64))) % 256, (wrap64 (128 + (Int.tmod (wrap64 (rd l0 x4_1)) 64))) % 256] : List Int) : List Int)).bind fun y115 => (if x3_1.length + y115.length < 140737488355328 then (epitomeref01_Of.l0 k1 l0 (x3_1 ++ y115) (wrap64 (x4_1 + 1))) else (none))) else (if t105 = 4 then ((some (([(wrap64 (240 + (wrap64 (Int.tdiv (wrap64 (rd l0 x4_1)) 262144)))) % 256, (wrap64 (128 + (Int.tmod (wrap64 (Int.tdiv (wrap64 (rd l0 x4_1)) 4096)) 64))) % 256, (wrap64 (128 + (Int.tmod (wrap64 (Int.tdiv (wrap64 (rd l0 x4_1)) 64)) 64))) % 256, (wrap64 (128 + (Int.tmod (wrap64 (rd l0 x4_1)) 64))) % 256] : List Int) : List Int)).bind fun y121 => (if x3_1.length + y121.length < 140737488355328 then (epitomeref01_Of.l0 k1 l0 (x3_1 ++ y121) (wrap64 (x4_1 + 1))) else (none))) else (epitomeref01_Of.l0 k1 l0 x3_1 (wrap64 (x4_1 + 1))))))) = some r := H
          have A6 := Aside0.mk A60
          clear A60
          by_cases c7 : t105 = 1
          · rw [if_pos c7] at H
            have c7b0 : (t105 == 1) = true := beq_iff_eq.mpr c7
            have c7b1 : (t105 != 1) = false := bne_eq_false_iff_eq.mpr c7
            clear c7
            by_cases c8 : x3_1.length < 140737488355328
            · rw [if_pos c8] at H
              have LMc8 := Aside0.mk c8
              clear c8
              obtain ⟨y106, hy106⟩ : ∃ y_ : List Int, y_ = (x3_1 ++ [(wrap64 (rd l0 x4_1)) % 256]) := ⟨_, rfl⟩
              replace H : (epitomeref01_Of.l0 k1 l0 y106 (wrap64 (x4_1 + 1))) = some r := by first | (rw [hy106]; with_reducible exact H) | (have H2_ := (Option.bind_some _ _).symm.trans H; rw [hy106]; with_reducible exact H2_) | (have H2_ := (Option.bind_some _ _).symm.trans H; with_reducible exact H2_) | with_reducible exact H | (rw [hy106]; exact H) | exact H
              have Ny106 := Aside0.mk hy106
              clear hy106
              have H' := Aside0.mk H
              clear H
              have p104 : 0 ≤ (x4_1 : Int) := of_decide_eq_true (by first | (with_reducible assumption) | assumption)
              have q104 : x4_1 < (l0.length : Int) := of_decide_eq_true (by first | (with_reducible assumption) | assumption)
              obtain ⟨ad104, e104, hx104_0⟩ := Kd.at_int HR0.out x4_1 p104 q104
              cases e104
              replace hx104_0 := (HB.out.cell (World.block_lt_of_cell? w _ hx104_0)).trans hx104_0
              replace p104 := eq_true p104
              replace q104 := eq_true q104
              go_wp2_with (first | ((with_reducible refine gate_callee (f := 81) rfl ?_); refine goesL_ (some 19) rfl rfl Tryd.func81 (by kernel_rfl) rfl #[.int .i64 (wrap64 (rd l0 x4_1))] rfl (by (try simp only [List.map_toArray, List.map_cons, List.map_nil]); first | done | rfl | (simp only [List.length_drop, List.length_take]; rfl)) ?_; (with_reducible refine (epitomeref01_size.calls k1 (wrap64 (rd l0 x4_1)) t105 _ A6.out).mono ?_); rintro e w' ⟨rfl, ⟨nd, rfl⟩⟩; refine ⟨_, rfl, ?_⟩) | ((with_reducible refine gate_builtin (b := .append) (xs := #[.tmp 22, .tmp 25]) rfl ?_); at_builtin; refine Kd.R_append (Kd.int .u8) (w0 := w) w.heap.size rfl (.tmp 22) (.tmp 25) 98 5 (.int .u8 0) 1 rfl Tryd.underlying98 info5 rfl (by decide) (by omega) u3 x3_1 ((wrap64 (rd l0 x4_1)) % 256) [.int .u8 ((wrap64 (rd l0 x4_1)) % 256)] (fun _ => True) (fun _ => False) rfl rfl ?aP (fun _ hk => hk.elim) ?aF ?aO ?aB ?aS ?aL ?_; (case aP => exact rfl); (case aB => exact (by repeat (first | (with_reducible first | exact HB.out | apply below_alloc | apply pw_below_drewN | apply below_drew1) | exact HB.out))); (case aF => exact (fun _ _ => trivial)); (case aO => exact (by (with_reducible repeat (first | apply Kd.R_alloc | apply Kd.R_drewN | apply Kd.R_drew)); exact HO_3.out)); (case aS => exact (below_size (by repeat (first | (with_reducible first | exact HB.out | apply below_alloc | apply pw_below_drewN | apply below_drew1) | exact HB.out)))); (case aL => have := LMc8.out; omega); intro v107 w9 ho hb hg hat; rw [← Ny106.out] at ho; have n0_ := Aside0.mk (hb); have n1_ := Aside0.mk (ho); clear HB; clear HO_3; have HB := n0_; have HO108 := n1_; clear n0_ n1_; clear ho hb hg hat))
              go_roundg k1
              case measure => have := HK1.out; omega
              case rel => exact ⟨(y106), (wrap64 (x4_1 + 1)), (by first | rfl | (simp; done) | (simp [*]; done)), H', ⟨by have := HK1.out; omega⟩, ⟨by (with_reducible repeat (first | apply Kd.R_alloc | apply Kd.R_drewN | apply Kd.R_drew)); exact HO108.out⟩, ⟨by repeat (first | (with_reducible first | exact HB.out | apply below_alloc | apply pw_below_drewN | apply below_drew1) | exact HB.out)⟩⟩
            · rw [if_neg c8] at H
              exact absurd H (by simp)
          · rw [if_neg c7] at H
            have c7b0 : (t105 == 1) = false := beq_eq_false_iff_ne.mpr c7
            have c7b1 : (t105 != 1) = true := bne_iff_ne.mpr c7
            by_cases c10 : t105 = 2
            · rw [if_pos c10] at H
              have c10b0 : (t105 == 2) = true := beq_iff_eq.mpr c10
              have c10b1 : (t105 != 2) = false := bne_eq_false_iff_eq.mpr c10
              clear c10
              obtain ⟨y109, hy109⟩ : ∃ y_ : List Int, y_ = (([(wrap64 (192 + (wrap64 (Int.tdiv (wrap64 (rd l0 x4_1)) 64)))) % 256, (wrap64 (128 + (Int.tmod (wrap64 (rd l0 x4_1)) 64))) % 256] : List Int)) := ⟨_, rfl⟩
              replace H : (if x3_1.length + y109.length < 140737488355328 then (epitomeref01_Of.l0 k1 l0 (x3_1 ++ y109) (wrap64 (x4_1 + 1))) else (none)) = some r := by first | (rw [hy109]; with_reducible exact H) | (have H2_ := (Option.bind_some _ _).symm.trans H; rw [hy109]; with_reducible exact H2_) | (have H2_ := (Option.bind_some _ _).symm.trans H; with_reducible exact H2_) | with_reducible exact H | (rw [hy109]; exact H) | exact H
              have Ny109 := Aside0.mk hy109
              clear hy109
              by_cases c11 : x3_1.length + y109.length < 140737488355328
              · rw [if_pos c11] at H
                have LMc11 := Aside0.mk c11
                clear c11
                obtain ⟨y112, hy112⟩ : ∃ y_ : List Int, y_ = (x3_1 ++ y109) := ⟨_, rfl⟩
                replace H : (epitomeref01_Of.l0 k1 l0 y112 (wrap64 (x4_1 + 1))) = some r := by first | (rw [hy112]; with_reducible exact H) | (have H2_ := (Option.bind_some _ _).symm.trans H; rw [hy112]; with_reducible exact H2_) | (have H2_ := (Option.bind_some _ _).symm.trans H; with_reducible exact H2_) | with_reducible exact H | (rw [hy112]; exact H) | exact H
                have Ny112 := Aside0.mk hy112
                clear hy112
                have H' := Aside0.mk H
                clear H
                have p104 : 0 ≤ (x4_1 : Int) := of_decide_eq_true (by first | (with_reducible assumption) | assumption)
                have q104 : x4_1 < (l0.length : Int) := of_decide_eq_true (by first | (with_reducible assumption) | assumption)
                obtain ⟨ad104, e104, hx104_0⟩ := Kd.at_int HR0.out x4_1 p104 q104
                cases e104
                replace hx104_0 := (HB.out.cell (World.block_lt_of_cell? w _ hx104_0)).trans hx104_0
                replace p104 := eq_true p104
                replace q104 := eq_true q104
                go_wp2_with (first | ((with_reducible refine gate_callee (f := 81) rfl ?_); refine goesL_ (some 19) rfl rfl Tryd.func81 (by kernel_rfl) rfl #[.int .i64 (wrap64 (rd l0 x4_1))] rfl (by (try simp only [List.map_toArray, List.map_cons, List.map_nil]); first | done | rfl | (simp only [List.length_drop, List.length_take]; rfl)) ?_; (with_reducible refine (epitomeref01_size.calls k1 (wrap64 (rd l0 x4_1)) t105 _ A6.out).mono ?_); rintro e w' ⟨rfl, ⟨nd, rfl⟩⟩; refine ⟨_, rfl, ?_⟩) | ((with_reducible refine gate_dst (N := 38) rfl ?_); refine Kd.R_lit (Kd.int .u8) _ 5 ?hg (N := 38) ?hd (xs := ([(wrap64 (192 + (wrap64 (Int.tdiv (wrap64 (rd l0 x4_1)) 64)))) % 256, (wrap64 (128 + (Int.tmod (wrap64 (rd l0 x4_1)) 64))) % 256] : List Int)) (inner := [.int .u8 ((wrap64 (192 + (wrap64 (Int.tdiv (wrap64 (rd l0 x4_1)) 64)))) % 256), .int .u8 ((wrap64 (128 + (Int.tmod (wrap64 (rd l0 x4_1)) 64))) % 256)]) (ok := fun _ => True) (okp := fun _ => True) ?hr ?hp (fun _ hk => hk) trivial (Below.refl _ _) (Nat.le_refl _) (by simp) ?_; (case hd => rfl); (case hg => rfl); (case hr => first | (go_simp; done) | (go_simp; rfl)); (case hp => exact (Reps.one (show Kd.M (Kd.int .u8) _ _ _ ((wrap64 (192 + (wrap64 (Int.tdiv (wrap64 (rd l0 x4_1)) 64)))) % 256) [.int .u8 ((wrap64 (192 + (wrap64 (Int.tdiv (wrap64 (rd l0 x4_1)) 64)))) % 256)] from rfl) (Reps.one (show Kd.M (Kd.int .u8) _ _ _ ((wrap64 (128 + (Int.tmod (wrap64 (rd l0 x4_1)) 64))) % 256) [.int .u8 ((wrap64 (128 + (Int.tmod (wrap64 (rd l0 x4_1)) 64))) % 256)] from rfl) (Reps.none _ _)))); intro v110 w12 ho13 hb hg_ hnew_; clear hg_ hnew_; (first | rw [← Ny109.out] at ho13 | (simp only [Int.reduceToNat] at ho13; rw [← Ny109.out] at ho13)); have n0_ := Aside0.mk (Kd.R_elder' (by (with_reducible repeat (first | apply Kd.R_alloc | apply Kd.R_drewN | apply Kd.R_drew)); exact HO_3.out) (Kd.R_base ho13) hb); have n1_ := Aside0.mk (Kd.R_lower (Kd.R_new' ho13 (Kd.R_lt (by (with_reducible repeat (first | apply Kd.R_alloc | apply Kd.R_drewN | apply Kd.R_drew)); exact HO_3.out))) (below_size (by repeat (first | (with_reducible first | exact HB.out | apply below_alloc | apply pw_below_drewN | apply below_drew1) | exact HB.out)))); have n2_ := Aside0.mk (below_step (by repeat (first | (with_reducible first | exact HB.out | apply below_alloc | apply pw_below_drewN | apply below_drew1) | exact HB.out)) hb); clear HO_3; clear HB; have HO_3 := n0_; have HO111 := n1_; have HB := n2_; clear n0_ n1_ n2_; clear hb ho13; obtain ⟨Ao15, co15, eo15⟩ := Kd.R_slice HO111.out; subst eo15) | ((with_reducible refine gate_builtin (b := .append) (xs := #[.tmp 29, .tmp 38]) rfl ?_); at_builtin; refine Kd.R_append_rows (Kd.int .u8) (w0 := w) w.heap.size rfl (.tmp 29) (.tmp 38) 98 5 (.int .u8 0) 1 rfl Tryd.underlying98 info5 rfl (by decide) (by omega) u3 x3_1 y109 _ _ _ (fun k_ => some k_ ≠ (.slice Ao15 y109.length co15 : Value).ownBlock) (fun _ => False) rfl rfl ?aO ?aR (fun _ _ h => h) (fun _ h => h.elim) ?aF ?aB ?aS ?aL ?_; (case aR => repeat (first | exact (Kd.R_reads' HO111.out).2.2 | (with_reducible refine Kd.C_alloc ?_ _) | (with_reducible refine Kd.C_drewN ?_ _) | (with_reducible refine Kd.C_drew ?_))); (case aB => exact (by repeat (first | (with_reducible first | exact HB.out | apply below_alloc | apply pw_below_drewN | apply below_drew1) | exact HB.out))); (case aF => exact (fun k_ hk => Kd.fresh' (Kd.R_lt (by (with_reducible repeat (first | apply Kd.R_alloc | apply Kd.R_drewN | apply Kd.R_drew)); exact HO111.out)) k_ hk)); (case aO => exact (by (with_reducible repeat (first | apply Kd.R_alloc | apply Kd.R_drewN | apply Kd.R_drew)); exact Kd.R_mono HO_3.out (fun _ hk => hk.2))); (case aS => exact (below_size (by repeat (first | (with_reducible first | exact HB.out | apply below_alloc | apply pw_below_drewN | apply below_drew1) | exact HB.out)))); (case aL => have := LMc11.out; omega); intro v113 w14 ho hb hg hat; rw [← Ny112.out] at ho; have n0_ := Aside0.mk (Kd.R_after (ok := (fun _ => True)) (by (with_reducible repeat (first | apply Kd.R_alloc | apply Kd.R_drewN | apply Kd.R_drew)); exact HO111.out) hg hat); have n1_ := Aside0.mk (hb); have n2_ := Aside0.mk (ho); clear HO111; clear HB; clear HO_3; have HO111 := n0_; have HB := n1_; have HO114 := n2_; clear n0_ n1_ n2_; clear ho hb hg hat))
                go_roundg k1
                case measure => have := HK1.out; omega
                case rel => exact ⟨(y112), (wrap64 (x4_1 + 1)), (by first | rfl | (simp; done) | (simp [*]; done)), H', ⟨by have := HK1.out; omega⟩, ⟨by (with_reducible repeat (first | apply Kd.R_alloc | apply Kd.R_drewN | apply Kd.R_drew)); exact Kd.R_mono HO114.out (fun _ hk => trivial)⟩, ⟨by repeat (first | (with_reducible first | exact HB.out | apply below_alloc | apply pw_below_drewN | apply below_drew1) | exact HB.out)⟩⟩
              · rw [if_neg c11] at H
                exact absurd H (by simp)
            · rw [if_neg c10] at H
              have c10b0 : (t105 == 2) = false := beq_eq_false_iff_ne.mpr c10
              have c10b1 : (t105 != 2) = true := bne_iff_ne.mpr c10
              by_cases c16 : t105 = 3
              · rw [if_pos c16] at H
                have c16b0 : (t105 == 3) = true := beq_iff_eq.mpr c16
                have c16b1 : (t105 != 3) = false := bne_eq_false_iff_eq.mpr c16
                clear c16
                obtain ⟨y115, hy115⟩ : ∃ y_ : List Int, y_ = (([(wrap64 (224 + (wrap64 (Int.tdiv (wrap64 (rd l0 x4_1)) 4096)))) % 256, (wrap64 (128 + (Int.tmod (wrap64 (Int.tdiv (wrap64 (rd l0 x4_1)) 64)) 64))) % 256, (wrap64 (128 + (Int.tmod (wrap64 (rd l0 x4_1)) 64))) % 256] : List Int)) := ⟨_, rfl⟩
                replace H : (if x3_1.length + y115.length < 140737488355328 then (epitomeref01_Of.l0 k1 l0 (x3_1 ++ y115) (wrap64 (x4_1 + 1))) else (none)) = some r := by first | (rw [hy115]; with_reducible exact H) | (have H2_ := (Option.bind_some _ _).symm.trans H; rw [hy115]; with_reducible exact H2_) | (have H2_ := (Option.bind_some _ _).symm.trans H; with_reducible exact H2_) | with_reducible exact H | (rw [hy115]; exact H) | exact H
                have Ny115 := Aside0.mk hy115
                clear hy115
                by_cases c17 : x3_1.length + y115.length < 140737488355328
                · rw [if_pos c17] at H
                  have LMc17 := Aside0.mk c17
                  clear c17
                  obtain ⟨y118, hy118⟩ : ∃ y_ : List Int, y_ = (x3_1 ++ y115) := ⟨_, rfl⟩
                  replace H : (epitomeref01_Of.l0 k1 l0 y118 (wrap64 (x4_1 + 1))) = some r := by first | (rw [hy118]; with_reducible exact H) | (have H2_ := (Option.bind_some _ _).symm.trans H; rw [hy118]; with_reducible exact H2_) | (have H2_ := (Option.bind_some _ _).symm.trans H; with_reducible exact H2_) | with_reducible exact H | (rw [hy118]; exact H) | exact H
                  have Ny118 := Aside0.mk hy118
                  clear hy118
                  have H' := Aside0.mk H
                  clear H
                  have p104 : 0 ≤ (x4_1 : Int) := of_decide_eq_true (by first | (with_reducible assumption) | assumption)
                  have q104 : x4_1 < (l0.length : Int) := of_decide_eq_true (by first | (with_reducible assumption) | assumption)
                  obtain ⟨ad104, e104, hx104_0⟩ := Kd.at_int HR0.out x4_1 p104 q104
                  cases e104
                  replace hx104_0 := (HB.out.cell (World.block_lt_of_cell? w _ hx104_0)).trans hx104_0
                  replace p104 := eq_true p104
                  replace q104 := eq_true q104
                  go_wp2_with (first | ((with_reducible refine gate_callee (f := 81) rfl ?_); refine goesL_ (some 19) rfl rfl Tryd.func81 (by kernel_rfl) rfl #[.int .i64 (wrap64 (rd l0 x4_1))] rfl (by (try simp only [List.map_toArray, List.map_cons, List.map_nil]); first | done | rfl | (simp only [List.length_drop, List.length_take]; rfl)) ?_; (with_reducible refine (epitomeref01_size.calls k1 (wrap64 (rd l0 x4_1)) t105 _ A6.out).mono ?_); rintro e w' ⟨rfl, ⟨nd, rfl⟩⟩; refine ⟨_, rfl, ?_⟩) | ((with_reducible refine gate_dst (N := 56) rfl ?_); refine Kd.R_lit (Kd.int .u8) _ 5 ?hg (N := 56) ?hd (xs := ([(wrap64 (224 + (wrap64 (Int.tdiv (wrap64 (rd l0 x4_1)) 4096)))) % 256, (wrap64 (128 + (Int.tmod (wrap64 (Int.tdiv (wrap64 (rd l0 x4_1)) 64)) 64))) % 256, (wrap64 (128 + (Int.tmod (wrap64 (rd l0 x4_1)) 64))) % 256] : List Int)) (inner := [.int .u8 ((wrap64 (224 + (wrap64 (Int.tdiv (wrap64 (rd l0 x4_1)) 4096)))) % 256), .int .u8 ((wrap64 (128 + (Int.tmod (wrap64 (Int.tdiv (wrap64 (rd l0 x4_1)) 64)) 64))) % 256), .int .u8 ((wrap64 (128 + (Int.tmod (wrap64 (rd l0 x4_1)) 64))) % 256)]) (ok := fun _ => True) (okp := fun _ => True) ?hr ?hp (fun _ hk => hk) trivial (Below.refl _ _) (Nat.le_refl _) (by simp) ?_; (case hd => rfl); (case hg => rfl); (case hr => first | (go_simp; done) | (go_simp; rfl)); (case hp => exact (Reps.one (show Kd.M (Kd.int .u8) _ _ _ ((wrap64 (224 + (wrap64 (Int.tdiv (wrap64 (rd l0 x4_1)) 4096)))) % 256) [.int .u8 ((wrap64 (224 + (wrap64 (Int.tdiv (wrap64 (rd l0 x4_1)) 4096)))) % 256)] from rfl) (Reps.one (show Kd.M (Kd.int .u8) _ _ _ ((wrap64 (128 + (Int.tmod (wrap64 (Int.tdiv (wrap64 (rd l0 x4_1)) 64)) 64))) % 256) [.int .u8 ((wrap64 (128 + (Int.tmod (wrap64 (Int.tdiv (wrap64 (rd l0 x4_1)) 64)) 64))) % 256)] from rfl) (Reps.one (show Kd.M (Kd.int .u8) _ _ _ ((wrap64 (128 + (Int.tmod (wrap64 (rd l0 x4_1)) 64))) % 256) [.int .u8 ((wrap64 (128 + (Int.tmod (wrap64 (rd l0 x4_1)) 64))) % 256)] from rfl) (Reps.none _ _))))); intro v116 w18 ho19 hb hg_ hnew_; clear hg_ hnew_; (first | rw [← Ny115.out] at ho19 | (simp only [Int.reduceToNat] at ho19; rw [← Ny115.out] at ho19)); have n0_ := Aside0.mk (Kd.R_elder' (by (with_reducible repeat (first | apply Kd.R_alloc | apply Kd.R_drewN | apply Kd.R_drew)); exact HO_3.out) (Kd.R_base ho19) hb); have n1_ := Aside0.mk (Kd.R_lower (Kd.R_new' ho19 (Kd.R_lt (by (with_reducible repeat (first | apply Kd.R_alloc | apply Kd.R_drewN | apply Kd.R_drew)); exact HO_3.out))) (below_size (by repeat (first | (with_reducible first | exact HB.out | apply below_alloc | apply pw_below_drewN | apply below_drew1) | exact HB.out)))); have n2_ := Aside0.mk (below_step (by repeat (first | (with_reducible first | exact HB.out | apply below_alloc | apply pw_below_drewN | apply below_drew1) | exact HB.out)) hb); clear HO_3; clear HB; have HO_3 := n0_; have HO117 := n1_; have HB := n2_; clear n0_ n1_ n2_; clear hb ho19; obtain ⟨Ao21, co21, eo21⟩ := Kd.R_slice HO117.out; subst eo21) | ((with_reducible refine gate_builtin (b := .append) (xs := #[.tmp 42, .tmp 56]) rfl ?_); at_builtin; refine Kd.R_append_rows (Kd.int .u8) (w0 := w) w.heap.size rfl (.tmp 42) (.tmp 56) 98 5 (.int .u8 0) 1 rfl Tryd.underlying98 info5 rfl (by decide) (by omega) u3 x3_1 y115 _ _ _ (fun k_ => some k_ ≠ (.slice Ao21 y115.length co21 : Value).ownBlock) (fun _ => False) rfl rfl ?aO ?aR (fun _ _ h => h) (fun _ h => h.elim) ?aF ?aB ?aS ?aL ?_; (case aR => repeat (first | exact (Kd.R_reads' HO117.out).2.2 | (with_reducible refine Kd.C_alloc ?_ _) | (with_reducible refine Kd.C_drewN ?_ _) | (with_reducible refine Kd.C_drew ?_))); (case aB => exact (by repeat (first | (with_reducible first | exact HB.out | apply below_alloc | apply pw_below_drewN | apply below_drew1) | exact HB.out))); (case aF => exact (fun k_ hk => Kd.fresh' (Kd.R_lt (by (with_reducible repeat (first | apply Kd.R_alloc | apply Kd.R_drewN | apply Kd.R_drew)); exact HO117.out)) k_ hk)); (case aO => exact (by (with_reducible repeat (first | apply Kd.R_alloc | apply Kd.R_drewN | apply Kd.R_drew)); exact Kd.R_mono HO_3.out (fun _ hk => hk.2))); (case aS => exact (below_size (by repeat (first | (with_reducible first | exact HB.out | apply below_alloc | apply pw_below_drewN | apply below_drew1) | exact HB.out)))); (case aL => have := LMc17.out; omega); intro v119 w20 ho hb hg hat; rw [← Ny118.out] at ho; have n0_ := Aside0.mk (Kd.R_after (ok := (fun _ => True)) (by (with_reducible repeat (first | apply Kd.R_alloc | apply Kd.R_drewN | apply Kd.R_drew)); exact HO117.out) hg hat); have n1_ := Aside0.mk (hb); have n2_ := Aside0.mk (ho); clear HO117; clear HB; clear HO_3; have HO117 := n0_; have HB := n1_; have HO120 := n2_; clear n0_ n1_ n2_; clear ho hb hg hat))
                  go_roundg k1
                  case measure => have := HK1.out; omega
                  case rel => exact ⟨(y118), (wrap64 (x4_1 + 1)), (by first | rfl | (simp; done) | (simp [*]; done)), H', ⟨by have := HK1.out; omega⟩, ⟨by (with_reducible repeat (first | apply Kd.R_alloc | apply Kd.R_drewN | apply Kd.R_drew)); exact Kd.R_mono HO120.out (fun _ hk => trivial)⟩, ⟨by repeat (first | (with_reducible first | exact HB.out | apply below_alloc | apply pw_below_drewN | apply below_drew1) | exact HB.out)⟩⟩
                · rw [if_neg c17] at H
                  exact absurd H (by simp)
              · rw [if_neg c16] at H
                have c16b0 : (t105 == 3) = false := beq_eq_false_iff_ne.mpr c16
                have c16b1 : (t105 != 3) = true := bne_iff_ne.mpr c16
                by_cases c22 : t105 = 4
                · rw [if_pos c22] at H
                  have c22b0 : (t105 == 4) = true := beq_iff_eq.mpr c22
                  have c22b1 : (t105 != 4) = false := bne_eq_false_iff_eq.mpr c22
                  clear c22
                  obtain ⟨y121, hy121⟩ : ∃ y_ : List Int, y_ = (([(wrap64 (240 + (wrap64 (Int.tdiv (wrap64 (rd l0 x4_1)) 262144)))) % 256, (wrap64 (128 + (Int.tmod (wrap64 (Int.tdiv (wrap64 (rd l0 x4_1)) 4096)) 64))) % 256, (wrap64 (128 + (Int.tmod (wrap64 (Int.tdiv (wrap64 (rd l0 x4_1)) 64)) 64))) % 256, (wrap64 (128 + (Int.tmod (wrap64 (rd l0 x4_1)) 64))) % 256] : List Int)) := ⟨_, rfl⟩
                  replace H : (if x3_1.length + y121.length < 140737488355328 then (epitomeref01_Of.l0 k1 l0 (x3_1 ++ y121) (wrap64 (x4_1 + 1))) else (none)) = some r := by first | (rw [hy121]; with_reducible exact H) | (have H2_ := (Option.bind_some _ _).symm.trans H; rw [hy121]; with_reducible exact H2_) | (have H2_ := (Option.bind_some _ _).symm.trans H; with_reducible exact H2_) | with_reducible exact H | (rw [hy121]; exact H) | exact H
                  have Ny121 := Aside0.mk hy121
                  clear hy121
                  by_cases c23 : x3_1.length + y121.length < 140737488355328
                  · rw [if_pos c23] at H
                    have LMc23 := Aside0.mk c23
                    clear c23
                    obtain ⟨y124, hy124⟩ : ∃ y_ : List Int, y_ = (x3_1 ++ y121) := ⟨_, rfl⟩
                    replace H : (epitomeref01_Of.l0 k1 l0 y124 (wrap64 (x4_1 + 1))) = some r := by first | (rw [hy124]; with_reducible exact H) | (have H2_ := (Option.bind_some _ _).symm.trans H; rw [hy124]; with_reducible exact H2_) | (have H2_ := (Option.bind_some _ _).symm.trans H; with_reducible exact H2_) | with_reducible exact H | (rw [hy124]; exact H) | exact H
                    have Ny124 := Aside0.mk hy124
                    clear hy124
                    have H' := Aside0.mk H
                    clear H
                    have p104 : 0 ≤ (x4_1 : Int) := of_decide_eq_true (by first | (with_reducible assumption) | assumption)
                    have q104 : x4_1 < (l0.length : Int) := of_decide_eq_true (by first | (with_reducible assumption) | assumption)
                    obtain ⟨ad104, e104, hx104_0⟩ := Kd.at_int HR0.out x4_1 p104 q104
                    cases e104
                    replace hx104_0 := (HB.out.cell (World.block_lt_of_cell? w _ hx104_0)).trans hx104_0
                    replace p104 := eq_true p104
                    replace q104 := eq_true q104
                    go_wp2_with (first | ((with_reducible refine gate_callee (f := 81) rfl ?_); refine goesL_ (some 19) rfl rfl Tryd.func81 (by kernel_rfl) rfl #[.int .i64 (wrap64 (rd l0 x4_1))] rfl (by (try simp only [List.map_toArray, List.map_cons, List.map_nil]); first | done | rfl | (simp only [List.length_drop, List.length_take]; rfl)) ?_; (with_reducible refine (epitomeref01_size.calls k1 (wrap64 (rd l0 x4_1)) t105 _ A6.out).mono ?_); rintro e w' ⟨rfl, ⟨nd, rfl⟩⟩; refine ⟨_, rfl, ?_⟩) | ((with_reducible refine gate_dst (N := 79) rfl ?_); refine Kd.R_lit (Kd.int .u8) _ 5 ?hg (N := 79) ?hd (xs := ([(wrap64 (240 + (wrap64 (Int.tdiv (wrap64 (rd l0 x4_1)) 262144)))) % 256, (wrap64 (128 + (Int.tmod (wrap64 (Int.tdiv (wrap64 (rd l0 x4_1)) 4096)) 64))) % 256, (wrap64 (128 + (Int.tmod (wrap64 (Int.tdiv (wrap64 (rd l0 x4_1)) 64)) 64))) % 256, (wrap64 (128 + (Int.tmod (wrap64 (rd l0 x4_1)) 64))) % 256] : List Int)) (inner := [.int .u8 ((wrap64 (240 + (wrap64 (Int.tdiv (wrap64 (rd l0 x4_1)) 262144)))) % 256), .int .u8 ((wrap64 (128 + (Int.tmod (wrap64 (Int.tdiv (wrap64 (rd l0 x4_1)) 4096)) 64))) % 256), .int .u8 ((wrap64 (128 + (Int.tmod (wrap64 (Int.tdiv (wrap64 (rd l0 x4_1)) 64)) 64))) % 256), .int .u8 ((wrap64 (128 + (Int.tmod (wrap64 (rd l0 x4_1)) 64))) % 256)]) (ok := fun _ => True) (okp := fun _ => True) ?hr ?hp (fun _ hk => hk) trivial (Below.refl _ _) (Nat.le_refl _) (by simp) ?_; (case hd => rfl); (case hg => rfl); (case hr => first | (go_simp; done) | (go_simp; rfl)); (case hp => exact (Reps.one (show Kd.M (Kd.int .u8) _ _ _ ((wrap64 (240 + (wrap64 (Int.tdiv (wrap64 (rd l0 x4_1)) 262144)))) % 256) [.int .u8 ((wrap64 (240 + (wrap64 (Int.tdiv (wrap64 (rd l0 x4_1)) 262144)))) % 256)] from rfl) (Reps.one (show Kd.M (Kd.int .u8) _ _ _ ((wrap64 (128 + (Int.tmod (wrap64 (Int.tdiv (wrap64 (rd l0 x4_1)) 4096)) 64))) % 256) [.int .u8 ((wrap64 (128 + (Int.tmod (wrap64 (Int.tdiv (wrap64 (rd l0 x4_1)) 4096)) 64))) % 256)] from rfl) (Reps.one (show Kd.M (Kd.int .u8) _ _ _ ((wrap64 (128 + (Int.tmod (wrap64 (Int.tdiv (wrap64 (rd l0 x4_1)) 64)) 64))) % 256) [.int .u8 ((wrap64 (128 + (Int.tmod (wrap64 (Int.tdiv (wrap64 (rd l0 x4_1)) 64)) 64))) % 256)] from rfl) (Reps.one (show Kd.M (Kd.int .u8) _ _ _ ((wrap64 (128 + (Int.tmod (wrap64 (rd l0 x4_1)) 64))) % 256) [.int .u8 ((wrap64 (128 + (Int.tmod (wrap64 (rd l0 x4_1)) 64))) % 256)] from rfl) (Reps.none _ _)))))); intro v122 w24 ho25 hb hg_ hnew_; clear hg_ hnew_; (first | rw [← Ny121.out] at ho25 | (simp only [Int.reduceToNat] at ho25; rw [← Ny121.out] at ho25)); have n0_ := Aside0.mk (Kd.R_elder' (by (with_reducible repeat (first | apply Kd.R_alloc | apply Kd.R_drewN | apply Kd.R_drew)); exact HO_3.out) (Kd.R_base ho25) hb); have n1_ := Aside0.mk (Kd.R_lower (Kd.R_new' ho25 (Kd.R_lt (by (with_reducible repeat (first | apply Kd.R_alloc | apply Kd.R_drewN | apply Kd.R_drew)); exact HO_3.out))) (below_size (by repeat (first | (with_reducible first | exact HB.out | apply below_alloc | apply pw_below_drewN | apply below_drew1) | exact HB.out)))); have n2_ := Aside0.mk (below_step (by repeat (first | (with_reducible first | exact HB.out | apply below_alloc | apply pw_below_drewN | apply below_drew1) | exact HB.out)) hb); clear HO_3; clear HB; have HO_3 := n0_; have HO123 := n1_; have HB := n2_; clear n0_ n1_ n2_; clear hb ho25; obtain ⟨Ao27, co27, eo27⟩ := Kd.R_slice HO123.out; subst eo27) | ((with_reducible refine gate_builtin (b := .append) (xs := #[.tmp 60, .tmp 79]) rfl ?_); at_builtin; refine Kd.R_append_rows (Kd.int .u8) (w0 := w) w.heap.size rfl (.tmp 60) (.tmp 79) 98 5 (.int .u8 0) 1 rfl Tryd.underlying98 info5 rfl (by decide) (by omega) u3 x3_1 y121 _ _ _ (fun k_ => some k_ ≠ (.slice Ao27 y121.length co27 : Value).ownBlock) (fun _ => False) rfl rfl ?aO ?aR (fun _ _ h => h) (fun _ h => h.elim) ?aF ?aB ?aS ?aL ?_; (case aR => repeat (first | exact (Kd.R_reads' HO123.out).2.2 | (with_reducible refine Kd.C_alloc ?_ _) | (with_reducible refine Kd.C_drewN ?_ _) | (with_reducible refine Kd.C_drew ?_))); (case aB => exact (by repeat (first | (with_reducible first | exact HB.out | apply below_alloc | apply pw_below_drewN | apply below_drew1) | exact HB.out))); (case aF => exact (fun k_ hk => Kd.fresh' (Kd.R_lt (by (with_reducible repeat (first | apply Kd.R_alloc | apply Kd.R_drewN | apply Kd.R_drew)); exact HO123.out)) k_ hk)); (case aO => exact (by (with_reducible repeat (first | apply Kd.R_alloc | apply Kd.R_drewN | apply Kd.R_drew)); exact Kd.R_mono HO_3.out (fun _ hk => hk.2))); (case aS => exact (below_size (by repeat (first | (with_reducible first | exact HB.out | apply below_alloc | apply pw_below_drewN | apply below_drew1) | exact HB.out)))); (case aL => have := LMc23.out; omega); intro v125 w26 ho hb hg hat; rw [← Ny124.out] at ho; have n0_ := Aside0.mk (Kd.R_after (ok := (fun _ => True)) (by (with_reducible repeat (first | apply Kd.R_alloc | apply Kd.R_drewN | apply Kd.R_drew)); exact HO123.out) hg hat); have n1_ := Aside0.mk (hb); have n2_ := Aside0.mk (ho); clear HO123; clear HB; clear HO_3; have HO123 := n0_; have HB := n1_; have HO126 := n2_; clear n0_ n1_ n2_; clear ho hb hg hat))
                    go_roundg k1
                    case measure => have := HK1.out; omega
                    case rel => exact ⟨(y124), (wrap64 (x4_1 + 1)), (by first | rfl | (simp; done) | (simp [*]; done)), H', ⟨by have := HK1.out; omega⟩, ⟨by (with_reducible repeat (first | apply Kd.R_alloc | apply Kd.R_drewN | apply Kd.R_drew)); exact Kd.R_mono HO126.out (fun _ hk => trivial)⟩, ⟨by repeat (first | (with_reducible first | exact HB.out | apply below_alloc | apply pw_below_drewN | apply below_drew1) | exact HB.out)⟩⟩
                  · rw [if_neg c23] at H
                    exact absurd H (by simp)
                · rw [if_neg c22] at H
                  have c22b0 : (t105 == 4) = false := beq_eq_false_iff_ne.mpr c22
                  have c22b1 : (t105 != 4) = true := bne_iff_ne.mpr c22
                  have H' := Aside0.mk H
                  clear H
                  have p104 : 0 ≤ (x4_1 : Int) := of_decide_eq_true (by first | (with_reducible assumption) | assumption)
                  have q104 : x4_1 < (l0.length : Int) := of_decide_eq_true (by first | (with_reducible assumption) | assumption)
                  obtain ⟨ad104, e104, hx104_0⟩ := Kd.at_int HR0.out x4_1 p104 q104
                  cases e104
                  replace hx104_0 := (HB.out.cell (World.block_lt_of_cell? w _ hx104_0)).trans hx104_0
                  replace p104 := eq_true p104
                  replace q104 := eq_true q104
                  go_wp2_with (first | ((with_reducible refine gate_callee (f := 81) rfl ?_); refine goesL_ (some 19) rfl rfl Tryd.func81 (by kernel_rfl) rfl #[.int .i64 (wrap64 (rd l0 x4_1))] rfl (by (try simp only [List.map_toArray, List.map_cons, List.map_nil]); first | done | rfl | (simp only [List.length_drop, List.length_take]; rfl)) ?_; (with_reducible refine (epitomeref01_size.calls k1 (wrap64 (rd l0 x4_1)) t105 _ A6.out).mono ?_); rintro e w' ⟨rfl, ⟨nd, rfl⟩⟩; refine ⟨_, rfl, ?_⟩))
                  go_roundg k1
                  case measure => have := HK1.out; omega
                  case rel => exact ⟨(x3_1), (wrap64 (x4_1 + 1)), (by first | rfl | (simp; done) | (simp [*]; done)), H', ⟨by have := HK1.out; omega⟩, ⟨by (with_reducible repeat (first | apply Kd.R_alloc | apply Kd.R_drewN | apply Kd.R_drew)); exact HO_3.out⟩, ⟨by repeat (first | (with_reducible first | exact HB.out | apply below_alloc | apply pw_below_drewN | apply below_drew1) | exact HB.out)⟩⟩
        · rw [if_neg c5] at H
          exact absurd H (by simp)
      · rw [if_neg c4] at H
        have c4b0 : decide (x4_1 < (l0.length : Int)) = false := decide_eq_false c4
        clear c4
        obtain rfl := Option.some.inj H
        have hcv28 := own_string (P := Tryd.prog) Tryd.underlying98 Tryd.underlying5 Tryd.underlying9 (Kd.own_of_R HO_3.out)
        go_wp2
        go_ret
        exact ⟨by first | rfl | (simp [errW_none, errW_some] <;> rfl) | (simp [*, errW_none, errW_some] <;> rfl), by repeat (first | (with_reducible first | exact HB.out | apply below_alloc | apply pw_below_drewN | apply below_drew1) | exact HB.out)⟩
end Go.Proofs.YtkefbljogjcodaaDoor.F
end
section
namespace Go.Proofs.YtkefbljogjcodaaDoor.F
open Go.RowKit Go.Proofs.YtkefbljogjcodaaDoorW.PrintWords Go.Proofs.YtkefbljogjcodaaDoorW.PrintLast Go.Proofs.YtkefbljogjcodaaDoorW.PrintMore
attribute [local go_sem] max2_int min2_int max_two min_two max_three min_three max_four min_four cell_setCell_isSome
set_option linter.unusedVariables false
set_option linter.unusedSimpArgs false
def epitomeref01_Fit.l0 : Nat → ByteArray → List Int → Int → Int → Int → Int → Int → Int → Int → Int → Int → Option (ByteArray)
  | 0, _, _, _, _, _, _, _, _, _, _, _ => none
  | k + 1, x0, x4, x5, x102000, x102001, x102002, x102003, x102004, x102005, x102006, x102007 => if x5 < (x0.size : Int) then (if 0 ≤ x5 then ((fit_rune.f x102000 x102001 x102002 x102003 x102004 x102005 x102006 x102007 (Int.tmod (bt x0 x5) 8)).bind fun t105 => (if x4.length < 35184372088832 then (epitomeref01_Fit.l0 k x0 (x4 ++ [t105]) (wrap64 (x5 + 1)) x102000 x102001 x102002 x102003 x102004 x102005 x102006 x102007) else (none))) else (none)) else ((epitomeref01_Of.f k x4).bind fun t109 => (some t109))
def epitomeref01_Fit.f (k : Nat) (a0 : ByteArray) : Option (ByteArray) := epitomeref01_Fit.l0 k a0 (([] : List Int)) 0 97 98 99 120 121 233 8364 128512
theorem epitomeref01_Fit.mono_l : ∀ k, (∀ y0 y1 y2 y3 y4 y5 y6 y7 y8 y9 y10, LeO (epitomeref01_Fit.l0 k y0 y1 y2 y3 y4 y5 y6 y7 y8 y9 y10) (epitomeref01_Fit.l0 (k + 1) y0 y1 y2 y3 y4 y5 y6 y7 y8 y9 y10))
  | 0 => fun _ _ _ _ _ _ _ _ _ _ _ r h => by simp [epitomeref01_Fit.l0] at h
  | k + 1 => by
    have ih0 := epitomeref01_Fit.mono_l k
    · intro y0 y1 y2 y3 y4 y5 y6 y7 y8 y9 y10
      unfold epitomeref01_Fit.l0
      repeat' first
      | (with_reducible exact ih0 _ _ _ _ _ _ _ _ _ _ _)
      | (with_reducible exact epitomeref01_Of.mono _ _)
      | (with_reducible exact LeO.refl _)
      | (with_reducible exact LeO.none _)
      | (with_reducible refine LeO.ite ?_ ?_)
      | (with_reducible refine LeO.bind ?_ (fun _ => ?_))
      | exact ih0 _ _ _ _ _ _ _ _ _ _ _
      | exact epitomeref01_Of.mono _ _
      | exact LeO.none _
      | refine LeO.ite ?_ ?_
      | refine LeO.bind ?_ (fun _ => ?_)
theorem epitomeref01_Fit.mono : ∀ a0 k, LeO (epitomeref01_Fit.f k a0) (epitomeref01_Fit.f (k + 1) a0) := by
  intro a0 k
  have ih0 := epitomeref01_Fit.mono_l k
  unfold epitomeref01_Fit.f
  repeat' first
      | (with_reducible exact ih0 _ _ _ _ _ _ _ _ _ _ _)
      | (with_reducible exact epitomeref01_Of.mono _ _)
      | (with_reducible exact LeO.refl _)
      | (with_reducible exact LeO.none _)
      | (with_reducible refine LeO.ite ?_ ?_)
      | (with_reducible refine LeO.bind ?_ (fun _ => ?_))
      | exact ih0 _ _ _ _ _ _ _ _ _ _ _
      | exact epitomeref01_Of.mono _ _
      | exact LeO.none _
      | refine LeO.ite ?_ ?_
      | refine LeO.bind ?_ (fun _ => ?_)
set_option maxHeartbeats 8000000 in
set_option maxRecDepth 100000 in
theorem epitomeref01_Fit.calls (k : Nat) (a0 : ByteArray) (r : ByteArray) (w : World) (h : epitomeref01_Fit.f k a0 = some r) :
    Calls Tryd.prog 14 #[.string a0] w fun e w' => e = .returned (.string r) ∧ Below w.heap.size w w' := by
  have hu62 := Tryd.underlying62
  have HB := Aside0.mk (Below.refl w.heap.size w)
  have H : (epitomeref01_Fit.l0 k a0 (([] : List Int)) 0 97 98 99 120 121 233 8364 128512) = some r := h
  clear h
  obtain ⟨y102, hy102⟩ : ∃ y_ : List Int, y_ = (([] : List Int)) := ⟨_, rfl⟩
  replace H : (epitomeref01_Fit.l0 k a0 y102 0 97 98 99 120 121 233 8364 128512) = some r := by first | (rw [hy102]; with_reducible exact H) | (have H2_ := (Option.bind_some _ _).symm.trans H; rw [hy102]; with_reducible exact H2_) | (have H2_ := (Option.bind_some _ _).symm.trans H; with_reducible exact H2_) | with_reducible exact H | (rw [hy102]; exact H) | exact H
  have Ny102 := Aside0.mk hy102
  clear hy102
  have H' := Aside0.mk H
  clear H
  go_enter Tryd.func14, Tryd.ntmps14
  go_wp2_with (first | ((with_reducible refine gate_dst (N := 3) rfl ?_); refine box_event ?hg (N := 3) ?hd (cs := #[.int .i32 0, .int .i32 0, .int .i32 0, .int .i32 0, .int .i32 0, .int .i32 0, .int .i32 0, .int .i32 0]) (t := 62) ?hr ?_; (case hd => rfl); (case hg => rfl); (case hr => first | (go_simp; done) | (go_simp; rfl)); intro gb101 hg w2 hbox hb; have n0_ := Aside0.mk (below_step (by repeat (first | (with_reducible first | exact HB.out | apply below_alloc | apply pw_below_drewN | apply below_drew1) | exact HB.out)) hb); have n1_ := Aside0.mk (hbox); have n2_ := Aside0.mk ((by rw [hg]; exact (below_size (by repeat (first | (with_reducible first | exact HB.out | apply below_alloc | apply pw_below_drewN | apply below_drew1) | exact HB.out))) : w.heap.size ≤ gb101)); have n3_ := Aside0.mk ((by rw [hg]; exact (below_size (by repeat (first | (with_reducible first | exact HB.out | apply below_alloc | apply pw_below_drewN | apply below_drew1) | exact HB.out))) : w.heap.size ≤ gb101)); clear HB; have HB := n0_; have BK101 := n1_; have GW101 := n2_; have GE101 := n3_; clear n0_ n1_ n2_ n3_; clear hb hbox hg; have hcz3_0 : w2.cell? ⟨gb101, 0, none⟩ = some (.int .i32 0) := (blk_cell BK101.out 0).trans rfl; have hcz3_1 : w2.cell? ⟨gb101, 1, none⟩ = some (.int .i32 0) := (blk_cell BK101.out 1).trans rfl; have hcz3_2 : w2.cell? ⟨gb101, 2, none⟩ = some (.int .i32 0) := (blk_cell BK101.out 2).trans rfl; have hcz3_3 : w2.cell? ⟨gb101, 3, none⟩ = some (.int .i32 0) := (blk_cell BK101.out 3).trans rfl; have hcz3_4 : w2.cell? ⟨gb101, 4, none⟩ = some (.int .i32 0) := (blk_cell BK101.out 4).trans rfl; have hcz3_5 : w2.cell? ⟨gb101, 5, none⟩ = some (.int .i32 0) := (blk_cell BK101.out 5).trans rfl; have hcz3_6 : w2.cell? ⟨gb101, 6, none⟩ = some (.int .i32 0) := (blk_cell BK101.out 6).trans rfl; have hcz3_7 : w2.cell? ⟨gb101, 7, none⟩ = some (.int .i32 0) := (blk_cell BK101.out 7).trans rfl; have hfz3_0 := blk_frozen BK101.out 0; have hfz3_1 := blk_frozen BK101.out 1; have hfz3_2 := blk_frozen BK101.out 2; have hfz3_3 := blk_frozen BK101.out 3; have hfz3_4 := blk_frozen BK101.out 4; have hfz3_5 := blk_frozen BK101.out 5; have hfz3_6 := blk_frozen BK101.out 6; have hfz3_7 := blk_frozen BK101.out 7) | ((with_reducible refine gate_dst (N := 7) rfl ?_); refine Kd.R_lit (Kd.int .i32) _ 21 ?hg (N := 7) ?hd (xs := ([] : List Int)) (inner := []) (ok := fun _ => True) (okp := fun _ => True) ?hr ?hp (fun _ hk => hk) trivial (Below.refl _ _) (Nat.le_refl _) (by simp) ?_; (case hd => rfl); (case hg => rfl); (case hr => first | (go_simp; done) | (go_simp; rfl)); (case hp => exact (Reps.none _ _)); intro v103 w4 ho5 hb hg_ hnew_; clear hg_ hnew_; (first | rw [← Ny102.out] at ho5 | (simp only [Int.reduceToNat] at ho5; rw [← Ny102.out] at ho5)); have n0_ := Aside0.mk (Kd.R_lower ho5 (below_size (by repeat (first | (with_reducible first | exact HB.out | apply below_alloc | apply pw_below_drewN | apply below_drew1 | refine below_set ?_ GE101.out) | exact HB.out)))); have n1_ := Aside0.mk (blk_below (g := gb101) (o := .cells #[.int .i32 97, .int .i32 98, .int .i32 99, .int .i32 120, .int .i32 121, .int .i32 233, .int .i32 8364, .int .i32 128512] 62 (0, 0)) (by (with_reducible repeat (first | refine blk_drewN ?_ _ | refine blk_drew ?_ | refine blk_alloc ?_ _)); refine blk_put (cs := #[.int .i32 97, .int .i32 98, .int .i32 99, .int .i32 120, .int .i32 121, .int .i32 233, .int .i32 8364, .int .i32 0]) ?_ 7 _ rfl; (with_reducible repeat (first | refine blk_drewN ?_ _ | refine blk_drew ?_ | refine blk_alloc ?_ _)); refine blk_put (cs := #[.int .i32 97, .int .i32 98, .int .i32 99, .int .i32 120, .int .i32 121, .int .i32 233, .int .i32 0, .int .i32 0]) ?_ 6 _ rfl; (with_reducible repeat (first | refine blk_drewN ?_ _ | refine blk_drew ?_ | refine blk_alloc ?_ _)); refine blk_put (cs := #[.int .i32 97, .int .i32 98, .int .i32 99, .int .i32 120, .int .i32 121, .int .i32 0, .int .i32 0, .int .i32 0]) ?_ 5 _ rfl; (with_reducible repeat (first | refine blk_drewN ?_ _ | refine blk_drew ?_ | refine blk_alloc ?_ _)); refine blk_put (cs := #[.int .i32 97, .int .i32 98, .int .i32 99, .int .i32 120, .int .i32 0, .int .i32 0, .int .i32 0, .int .i32 0]) ?_ 4 _ rfl; (with_reducible repeat (first | refine blk_drewN ?_ _ | refine blk_drew ?_ | refine blk_alloc ?_ _)); refine blk_put (cs := #[.int .i32 97, .int .i32 98, .int .i32 99, .int .i32 0, .int .i32 0, .int .i32 0, .int .i32 0, .int .i32 0]) ?_ 3 _ rfl; (with_reducible repeat (first | refine blk_drewN ?_ _ | refine blk_drew ?_ | refine blk_alloc ?_ _)); refine blk_put (cs := #[.int .i32 97, .int .i32 98, .int .i32 0, .int .i32 0, .int .i32 0, .int .i32 0, .int .i32 0, .int .i32 0]) ?_ 2 _ rfl; (with_reducible repeat (first | refine blk_drewN ?_ _ | refine blk_drew ?_ | refine blk_alloc ?_ _)); refine blk_put (cs := #[.int .i32 97, .int .i32 0, .int .i32 0, .int .i32 0, .int .i32 0, .int .i32 0, .int .i32 0, .int .i32 0]) ?_ 1 _ rfl; (with_reducible repeat (first | refine blk_drewN ?_ _ | refine blk_drew ?_ | refine blk_alloc ?_ _)); refine blk_put (cs := #[.int .i32 0, .int .i32 0, .int .i32 0, .int .i32 0, .int .i32 0, .int .i32 0, .int .i32 0, .int .i32 0]) ?_ 0 _ rfl; (with_reducible repeat (first | refine blk_drewN ?_ _ | refine blk_drew ?_ | refine blk_alloc ?_ _)); exact BK101.out) hb); have n2_ := Aside0.mk (below_step (by repeat (first | (with_reducible first | exact HB.out | apply below_alloc | apply pw_below_drewN | apply below_drew1 | refine below_set ?_ GE101.out) | exact HB.out)) hb); clear BK101; clear HB; have HO104 := n0_; have BK101 := n1_; have HB := n2_; clear n0_ n1_ n2_; clear hb ho5))
  go_loopg [4, 5] k (fun kq v4 v5 w' => ∃ (x4_1 : List Int) (x5_1 : Int), v5 = .int .i64 x5_1 ∧ Aside0 (epitomeref01_Fit.l0 kq a0 x4_1 x5_1 97 98 99 120 121 233 8364 128512 = some r) ∧ Aside0 (kq ≤ k) ∧ Aside0 (Kd.R (Kd.int .i32) 21 w' w.heap.size (fun _ => True) v4 x4_1) ∧ Aside0 (w'.heap[gb101]? = some (.cells #[.int .i32 97, .int .i32 98, .int .i32 99, .int .i32 120, .int .i32 121, .int .i32 233, .int .i32 8364, .int .i32 128512] 62 (0, 0))) ∧ Aside0 (Below w.heap.size w w'))
  case atStart => exact ⟨(y102), (0), (by first | rfl | (simp; done) | (simp [*]; done)), H', ⟨Nat.le_refl _⟩, ⟨by (with_reducible repeat (first | apply Kd.R_alloc | apply Kd.R_drewN | apply Kd.R_drew)); exact HO104.out⟩, ⟨by (with_reducible repeat (first | refine blk_drewN ?_ _ | refine blk_drew ?_ | refine blk_alloc ?_ _)); exact BK101.out⟩, ⟨by repeat (first | (with_reducible first | exact HB.out | apply below_alloc | apply pw_below_drewN | apply below_drew1 | refine below_set ?_ GE101.out) | exact HB.out)⟩⟩
  case round =>
    clear H'
    try clear c1
    try clear p2
    try clear hcz3_0
    try clear hcz3_1
    try clear hcz3_2
    try clear hcz3_3
    try clear hcz3_4
    try clear hcz3_5
    try clear hcz3_6
    try clear hcz3_7
    try clear hfz3_0
    try clear hfz3_1
    try clear hfz3_2
    try clear hfz3_3
    try clear hfz3_4
    try clear hfz3_5
    try clear hfz3_6
    try clear hfz3_7
    obtain ⟨x4_1, x5_1, rfl, HA, HK1, HO_4, BK101, HB⟩ := hrel
    cases gk with
    | zero => exact absurd HA.out (by simp [epitomeref01_Fit.l0])
    | succ k1 =>
      have H := HA.out
      clear HA
      simp only [epitomeref01_Fit.l0] at H
      by_cases c6 : x5_1 < (a0.size : Int)
      · rw [if_pos c6] at H
        have c6b0 : decide (x5_1 < (a0.size : Int)) = true := decide_eq_true c6
        clear c6
        by_cases c7 : 0 ≤ x5_1
        · rw [if_pos c7] at H
          have c7b0 : decide (0 ≤ x5_1) = true := decide_eq_true c7
          clear c7
          replace H := Option.bind_eq_some_iff.mp H
          obtain ⟨t105, A90, H⟩ := H
          replace H : (if x4_1.length < 35184372088832 then (epitomeref01_Fit.l0 k1 a0 (x4_1 ++ [t105]) (wrap64 (x5_1 + 1)) 97 98 99 120 121 233 8364 128512) else (none)) = some r := H
          have A9 := Aside0.mk A90
          clear A90
          by_cases c10 : x4_1.length < 35184372088832
          · rw [if_pos c10] at H
            have LMc10 := Aside0.mk c10
            clear c10
            obtain ⟨y106, hy106⟩ : ∃ y_ : List Int, y_ = (x4_1 ++ [t105]) := ⟨_, rfl⟩
            replace H : (epitomeref01_Fit.l0 k1 a0 y106 (wrap64 (x5_1 + 1)) 97 98 99 120 121 233 8364 128512) = some r := by first | (rw [hy106]; with_reducible exact H) | (have H2_ := (Option.bind_some _ _).symm.trans H; rw [hy106]; with_reducible exact H2_) | (have H2_ := (Option.bind_some _ _).symm.trans H; with_reducible exact H2_) | with_reducible exact H | (rw [hy106]; exact H) | exact H
            have Ny106 := Aside0.mk hy106
            clear hy106
            have H' := Aside0.mk H
            clear H
            have p8 : 0 ≤ (x5_1 : Int) := of_decide_eq_true (by first | (with_reducible assumption) | assumption)
            have q8 : x5_1 < (a0.size : Int) := of_decide_eq_true (by first | (with_reducible assumption) | assumption)
            have hx8 := bt_at a0 x5_1
            replace p8 := eq_true p8
            replace q8 := eq_true q8
            have hcz11_0 : wr.cell? ⟨gb101, 0, none⟩ = some (.int .i32 97) := (blk_cell BK101.out 0).trans rfl
            have hcz11_1 : wr.cell? ⟨gb101, 1, none⟩ = some (.int .i32 98) := (blk_cell BK101.out 1).trans rfl
            have hcz11_2 : wr.cell? ⟨gb101, 2, none⟩ = some (.int .i32 99) := (blk_cell BK101.out 2).trans rfl
            have hcz11_3 : wr.cell? ⟨gb101, 3, none⟩ = some (.int .i32 120) := (blk_cell BK101.out 3).trans rfl
            have hcz11_4 : wr.cell? ⟨gb101, 4, none⟩ = some (.int .i32 121) := (blk_cell BK101.out 4).trans rfl
            have hcz11_5 : wr.cell? ⟨gb101, 5, none⟩ = some (.int .i32 233) := (blk_cell BK101.out 5).trans rfl
            have hcz11_6 : wr.cell? ⟨gb101, 6, none⟩ = some (.int .i32 8364) := (blk_cell BK101.out 6).trans rfl
            have hcz11_7 : wr.cell? ⟨gb101, 7, none⟩ = some (.int .i32 128512) := (blk_cell BK101.out 7).trans rfl
            have hfz11_0 := blk_frozen BK101.out 0
            have hfz11_1 := blk_frozen BK101.out 1
            have hfz11_2 := blk_frozen BK101.out 2
            have hfz11_3 := blk_frozen BK101.out 3
            have hfz11_4 := blk_frozen BK101.out 4
            have hfz11_5 := blk_frozen BK101.out 5
            have hfz11_6 := blk_frozen BK101.out 6
            have hfz11_7 := blk_frozen BK101.out 7
            have f8b := rem8 (bt a0 x5_1) (bt_nonneg _ _)
            have f8c := fit_cell BK101.out A9.out
            have f8p := eq_true f8b.1
            have f8q := eq_true f8b.2
            have huA := Tryd.underlying62
            clear f8b
            go_wp2_with (first | ((with_reducible refine gate_builtin (b := .append) (xs := #[.tmp 14, .tmp 21]) rfl ?_); at_builtin; refine Kd.R_append (Kd.int .i32) (w0 := w) w.heap.size rfl (.tmp 14) (.tmp 21) 63 21 (.int .i32 0) 4 rfl Tryd.underlying63 info21 rfl (by decide) (by omega) u4 x4_1 t105 [.int .i32 t105] (fun _ => True) (fun _ => False) rfl rfl ?aP (fun _ hk => hk.elim) ?aF ?aO ?aB ?aS ?aL ?_; (case aP => exact rfl); (case aB => exact (by repeat (first | (with_reducible first | exact HB.out | apply below_alloc | apply pw_below_drewN | apply below_drew1 | refine below_set ?_ GE101.out) | exact HB.out))); (case aF => exact (fun _ _ => trivial)); (case aO => exact (by (with_reducible repeat (first | apply Kd.R_alloc | apply Kd.R_drewN | apply Kd.R_drew)); exact HO_4.out)); (case aS => exact (below_size (by repeat (first | (with_reducible first | exact HB.out | apply below_alloc | apply pw_below_drewN | apply below_drew1 | refine below_set ?_ GE101.out) | exact HB.out)))); (case aL => have := LMc10.out; omega); intro v107 w13 ho hb hg hat; rw [← Ny106.out] at ho; have n0_ := Aside0.mk (blk_grown (g := gb101) (o := .cells #[.int .i32 97, .int .i32 98, .int .i32 99, .int .i32 120, .int .i32 121, .int .i32 233, .int .i32 8364, .int .i32 128512] 62 (0, 0)) (by (with_reducible repeat (first | refine blk_drewN ?_ _ | refine blk_drew ?_ | refine blk_alloc ?_ _)); exact BK101.out) hg (Kd.R_ne HO_4.out BK101.out (by decide))); have n1_ := Aside0.mk (hb); have n2_ := Aside0.mk (ho); clear BK101; clear HB; clear HO_4; have BK101 := n0_; have HB := n1_; have HO108 := n2_; clear n0_ n1_ n2_; clear ho hb hg hat))
            go_roundg k1
            case measure => have := HK1.out; omega
            case rel => exact ⟨(y106), (wrap64 (x5_1 + 1)), (by first | rfl | (simp; done) | (simp [*]; done)), H', ⟨by have := HK1.out; omega⟩, ⟨by (with_reducible repeat (first | apply Kd.R_alloc | apply Kd.R_drewN | apply Kd.R_drew)); exact HO108.out⟩, ⟨by (with_reducible repeat (first | refine blk_drewN ?_ _ | refine blk_drew ?_ | refine blk_alloc ?_ _)); exact BK101.out⟩, ⟨by repeat (first | (with_reducible first | exact HB.out | apply below_alloc | apply pw_below_drewN | apply below_drew1 | refine below_set ?_ GE101.out) | exact HB.out)⟩⟩
          · rw [if_neg c10] at H
            exact absurd H (by simp)
        · rw [if_neg c7] at H
          exact absurd H (by simp)
      · rw [if_neg c6] at H
        have c6b0 : decide (x5_1 < (a0.size : Int)) = false := decide_eq_false c6
        clear c6
        replace H := Option.bind_eq_some_iff.mp H
        obtain ⟨t109, A140, H⟩ := H
        replace H : (some t109) = some r := H
        have A14 := Aside0.mk A140
        clear A140
        obtain rfl := Option.some.inj H
        obtain ⟨Ao15, co15, eo15⟩ := Kd.R_slice HO_4.out
        subst eo15
        go_wp2_with (first | ((with_reducible refine gate_callee (f := 46) rfl ?_); refine goesL_ (some 24) rfl rfl Tryd.func46 (by kernel_rfl) rfl #[.slice Ao15 x4_1.length co15] rfl (by (try simp only [List.map_toArray, List.map_cons, List.map_nil]); first | done | rfl | (simp only [List.length_drop, List.length_take]; rfl)) ?_; (with_reducible refine (epitomeref01_Of.calls k1 _ _ x4_1 t109 _ ?side1 ?side2 A14.out).mono ?_); (case side1 => repeat (first | exact (Kd.R_reads' HO_4.out).2.2 | (with_reducible refine Kd.C_alloc ?_ _) | (with_reducible refine Kd.C_drewN ?_ _) | (with_reducible refine Kd.C_drew ?_))); (case side2 => exact (Kd.R_reads' HO_4.out).2.1); rintro e w16 ⟨rfl, hb⟩; refine ⟨_, rfl, ?_⟩; have n0_ := Aside0.mk (Kd.R_below (by (with_reducible repeat (first | apply Kd.R_alloc | apply Kd.R_drewN | apply Kd.R_drew)); exact HO_4.out) hb); have n1_ := Aside0.mk (blk_below (g := gb101) (o := .cells #[.int .i32 97, .int .i32 98, .int .i32 99, .int .i32 120, .int .i32 121, .int .i32 233, .int .i32 8364, .int .i32 128512] 62 (0, 0)) (by (with_reducible repeat (first | refine blk_drewN ?_ _ | refine blk_drew ?_ | refine blk_alloc ?_ _)); exact BK101.out) hb); have n2_ := Aside0.mk (below_step (by repeat (first | (with_reducible first | exact HB.out | apply below_alloc | apply pw_below_drewN | apply below_drew1 | refine below_set ?_ GE101.out) | exact HB.out)) hb); clear HO_4; clear BK101; clear HB; have HO_4 := n0_; have BK101 := n1_; have HB := n2_; clear n0_ n1_ n2_; (try clear hb); (try clear hb2); (try clear hk); (try clear hi)))
        go_ret
        exact ⟨by first | rfl | (simp [errW_none, errW_some] <;> rfl) | (simp [*, errW_none, errW_some] <;> rfl), by repeat (first | (with_reducible first | exact HB.out | apply below_alloc | apply pw_below_drewN | apply below_drew1 | refine below_set ?_ GE101.out) | exact HB.out)⟩
end Go.Proofs.YtkefbljogjcodaaDoor.F
end
section
namespace Go.Proofs.YtkefbljogjcodaaDoor.F
open Go.RowKit Go.Proofs.YtkefbljogjcodaaDoorW.PrintWords Go.Proofs.YtkefbljogjcodaaDoorW.PrintLast Go.Proofs.YtkefbljogjcodaaDoorW.PrintMore
attribute [local go_sem] max2_int min2_int max_two min_two max_three min_three max_four min_four cell_setCell_isSome
set_option linter.unusedVariables false
set_option linter.unusedSimpArgs false
def epitomelaw12_UnderTie.f (k : Nat) (a0 : ByteArray) (a1 : ByteArray) (a2_0 : Int) (a2_1 : Int) : Option (Bool) := (epitomelaw12_shown.f k).bind fun t102 => (if (wrap64 ((wrap64 (Int.tmod a2_0 64)) + 1)) = 0 then (none) else (if 0 ≤ (mn (a0.size : Int) 20) then (if (mn (a0.size : Int) 20) ≤ (a0.size : Int) then ((epitomeref01_Fit.f k (a0.extract 0 ((mn (a0.size : Int) 20) : Int).toNat)).bind fun t103 => (if 0 ≤ (mn (a1.size : Int) 20) then (if (mn (a1.size : Int) 20) ≤ (a1.size : Int) then ((epitomeref01_Fit.f k (a1.extract 0 ((mn (a1.size : Int) 20) : Int).toNat)).bind fun t104 => ((some (([(⟨1, Int.tmod (wrap64 (a2_1)) (wrap64 ((wrap64 (Int.tmod a2_0 64)) + 1)), (⟨#[]⟩ : ByteArray)⟩ : S26), (⟨2, 0, t103⟩ : S26), (⟨1, wrap64 ((wrap64 (Int.tmod a2_0 64)) - (Int.tmod (wrap64 (a2_1)) (wrap64 ((wrap64 (Int.tmod a2_0 64)) + 1)))), (⟨#[]⟩ : ByteArray)⟩ : S26)] : List (S26)) : List (S26))).bind fun y105 => ((some (([(⟨1, Int.tmod (wrap64 (a2_1)) (wrap64 ((wrap64 (Int.tmod a2_0 64)) + 1)), (⟨#[]⟩ : ByteArray)⟩ : S26), (⟨2, 0, t104⟩ : S26), (⟨1, wrap64 ((wrap64 (Int.tmod a2_0 64)) - (Int.tmod (wrap64 (a2_1)) (wrap64 ((wrap64 (Int.tmod a2_0 64)) + 1)))), (⟨#[]⟩ : ByteArray)⟩ : S26)] : List (S26)) : List (S26))).bind fun y108 => ((over_Of.f k y108 y105).bind fun bt111 => ((under_Of.f k y105 y108).bind fun bt115 => ((points_Count.f t103).bind fun t119 => ((points_Count.f t104).bind fun t123 => (if t102 = true then (if bt111.2 = 0 then (if bt115.2 = 0 then ((normal_Of.f k (([(⟨1, wrap64 ((Int.tmod (wrap64 (a2_1)) (wrap64 ((wrap64 (Int.tmod a2_0 64)) + 1))) + t119), (⟨#[]⟩ : ByteArray)⟩ : S26), (⟨2, 0, t104⟩ : S26), (⟨1, wrap64 ((wrap64 (Int.tmod a2_0 64)) - (Int.tmod (wrap64 (a2_1)) (wrap64 ((wrap64 (Int.tmod a2_0 64)) + 1)))), (⟨#[]⟩ : ByteArray)⟩ : S26)] : List (S26)))).bind fun t127 => ((epitomeref04_Same.f k bt111.1 t127).bind fun t130 => (if t130 = true then ((normal_Of.f k (([(⟨1, Int.tmod (wrap64 (a2_1)) (wrap64 ((wrap64 (Int.tmod a2_0 64)) + 1)), (⟨#[]⟩ : ByteArray)⟩ : S26), (⟨2, 0, t103⟩ : S26), (⟨1, wrap64 ((wrap64 (t123 + (wrap64 (Int.tmod a2_0 64)))) - (Int.tmod (wrap64 (a2_1)) (wrap64 ((wrap64 (Int.tmod a2_0 64)) + 1)))), (⟨#[]⟩ : ByteArray)⟩ : S26)] : List (S26)))).bind fun t131 => ((epitomeref04_Same.f k bt115.1 t131).bind fun t134 => (some t134))) else (some false)))) else (some false)) else (some false)) else (some false))))))))) else (none)) else (none))) else (none)) else (none)))
set_option maxHeartbeats 8000000 in
set_option maxRecDepth 100000 in
theorem epitomelaw12_UnderTie.calls (k : Nat) (a0 : ByteArray) (a1 : ByteArray) (a2_0 : Int) (a2_1 : Int) (r : Bool) (hr_ : Aside0 (r = true)) (w : World) (hG : Glob w) (h : epitomelaw12_UnderTie.f k a0 a1 a2_0 a2_1 = some r) :
    Calls Tryd.prog 3 #[.string a0, .string a1, .agg #[.int .u8 a2_0, .int .u8 a2_1]] w fun e w' => e = .returned (.bool r) ∧ Below w.heap.size w w' := by
  have hu22 := Tryd.underlying22
  have hu26 := Tryd.underlying26
  have HG := Aside0.mk hG
  clear hG
  have HB := Aside0.mk (Below.refl w.heap.size w)
  have H : ((epitomelaw12_shown.f k).bind fun t102 => (if (wrap64 ((wrap64 (Int.tmod a2_0 64)) + 1)) = 0 then (none) else (if 0 ≤ (mn (a0.size : Int) 20) then (if (mn (a0.size : Int) 20) ≤ (a0.size : Int) then ((epitomeref01_Fit.f k (a0.extract 0 ((mn (a0.size : Int) 20) : Int).toNat)).bind fun t103 => (if 0 ≤ (mn (a1.size : Int) 20) then (if (mn (a1.size : Int) 20) ≤ (a1.size : Int) then ((epitomeref01_Fit.f k (a1.extract 0 ((mn (a1.size : Int) 20) : Int).toNat)).bind fun t104 => ((some (([(⟨1, Int.tmod (wrap64 (a2_1)) (wrap64 ((wrap64 (Int.tmod a2_0 64)) + 1)), (⟨#[]⟩ : ByteArray)⟩ : S26), (⟨2, 0, t103⟩ : S26), (⟨1, wrap64 ((wrap64 (Int.tmod a2_0 64)) - (Int.tmod (wrap64 (a2_1)) (wrap64 ((wrap64 (Int.tmod a2_0 64)) + 1)))), (⟨#[]⟩ : ByteArray)⟩ : S26)] : List (S26)) : List (S26))).bind fun y105 => ((some (([(⟨1, Int.tmod (wrap64 (a2_1)) (wrap64 ((wrap64 (Int.tmod a2_0 64)) + 1)), (⟨#[]⟩ : ByteArray)⟩ : S26), (⟨2, 0, t104⟩ : S26), (⟨1, wrap64 ((wrap64 (Int.tmod a2_0 64)) - (Int.tmod (wrap64 (a2_1)) (wrap64 ((wrap64 (Int.tmod a2_0 64)) + 1)))), (⟨#[]⟩ : ByteArray)⟩ : S26)] : List (S26)) : List (S26))).bind fun y108 => ((over_Of.f k y108 y105).bind fun bt111 => ((under_Of.f k y105 y108).bind fun bt115 => ((points_Count.f t103).bind fun t119 => ((points_Count.f t104).bind fun t123 => (if t102 = true then (if bt111.2 = 0 then (if bt115.2 = 0 then ((normal_Of.f k (([(⟨1, wrap64 ((Int.tmod (wrap64 (a2_1)) (wrap64 ((wrap64 (Int.tmod a2_0 64)) + 1))) + t119), (⟨#[]⟩ : ByteArray)⟩ : S26), (⟨2, 0, t104⟩ : S26), (⟨1, wrap64 ((wrap64 (Int.tmod a2_0 64)) - (Int.tmod (wrap64 (a2_1)) (wrap64 ((wrap64 (Int.tmod a2_0 64)) + 1)))), (⟨#[]⟩ : ByteArray)⟩ : S26)] : List (S26)))).bind fun t127 => ((epitomeref04_Same.f k bt111.1 t127).bind fun t130 => (if t130 = true then ((normal_Of.f k (([(⟨1, Int.tmod (wrap64 (a2_1)) (wrap64 ((wrap64 (Int.tmod a2_0 64)) + 1)), (⟨#[]⟩ : ByteArray)⟩ : S26), (⟨2, 0, t103⟩ : S26), (⟨1, wrap64 ((wrap64 (t123 + (wrap64 (Int.tmod a2_0 64)))) - (Int.tmod (wrap64 (a2_1)) (wrap64 ((wrap64 (Int.tmod a2_0 64)) + 1)))), (⟨#[]⟩ : ByteArray)⟩ : S26)] : List (S26)))).bind fun t131 => ((epitomeref04_Same.f k bt115.1 t131).bind fun t134 => (some t134))) else (some false)))) else (some false)) else (some false)) else (some false))))))))) else (none)) else (none))) else (none)) else (none)))) = some r := h
  clear h
  replace H := Option.bind_eq_some_iff.mp H
  obtain ⟨t102, A40, H⟩ := H
  replace H : (if (wrap64 ((wrap64 (Int.tmod a2_0 64)) + 1)) = 0 then (none) else (if 0 ≤ (mn (a0.size : Int) 20) then (if (mn (a0.size : Int) 20) ≤ (a0.size : Int) then ((epitomeref01_Fit.f k (a0.extract 0 ((mn (a0.size : Int) 20) : Int).toNat)).bind fun t103 => (if 0 ≤ (mn (a1.size : Int) 20) then (if (mn (a1.size : Int) 20) ≤ (a1.size : Int) then ((epitomeref01_Fit.f k (a1.extract 0 ((mn (a1.size : Int) 20) : Int).toNat)).bind fun t104 => ((some (([(⟨1, Int.tmod (wrap64 (a2_1)) (wrap64 ((wrap64 (Int.tmod a2_0 64)) + 1)), (⟨#[]⟩ : ByteArray)⟩ : S26), (⟨2, 0, t103⟩ : S26), (⟨1, wrap64 ((wrap64 (Int.tmod a2_0 64)) - (Int.tmod (wrap64 (a2_1)) (wrap64 ((wrap64 (Int.tmod a2_0 64)) + 1)))), (⟨#[]⟩ : ByteArray)⟩ : S26)] : List (S26)) : List (S26))).bind fun y105 => ((some (([(⟨1, Int.tmod (wrap64 (a2_1)) (wrap64 ((wrap64 (Int.tmod a2_0 64)) + 1)), (⟨#[]⟩ : ByteArray)⟩ : S26), (⟨2, 0, t104⟩ : S26), (⟨1, wrap64 ((wrap64 (Int.tmod a2_0 64)) - (Int.tmod (wrap64 (a2_1)) (wrap64 ((wrap64 (Int.tmod a2_0 64)) + 1)))), (⟨#[]⟩ : ByteArray)⟩ : S26)] : List (S26)) : List (S26))).bind fun y108 => ((over_Of.f k y108 y105).bind fun bt111 => ((under_Of.f k y105 y108).bind fun bt115 => ((points_Count.f t103).bind fun t119 => ((points_Count.f t104).bind fun t123 => (if t102 = true then (if bt111.2 = 0 then (if bt115.2 = 0 then ((normal_Of.f k (([(⟨1, wrap64 ((Int.tmod (wrap64 (a2_1)) (wrap64 ((wrap64 (Int.tmod a2_0 64)) + 1))) + t119), (⟨#[]⟩ : ByteArray)⟩ : S26), (⟨2, 0, t104⟩ : S26), (⟨1, wrap64 ((wrap64 (Int.tmod a2_0 64)) - (Int.tmod (wrap64 (a2_1)) (wrap64 ((wrap64 (Int.tmod a2_0 64)) + 1)))), (⟨#[]⟩ : ByteArray)⟩ : S26)] : List (S26)))).bind fun t127 => ((epitomeref04_Same.f k bt111.1 t127).bind fun t130 => (if t130 = true then ((normal_Of.f k (([(⟨1, Int.tmod (wrap64 (a2_1)) (wrap64 ((wrap64 (Int.tmod a2_0 64)) + 1)), (⟨#[]⟩ : ByteArray)⟩ : S26), (⟨2, 0, t103⟩ : S26), (⟨1, wrap64 ((wrap64 (t123 + (wrap64 (Int.tmod a2_0 64)))) - (Int.tmod (wrap64 (a2_1)) (wrap64 ((wrap64 (Int.tmod a2_0 64)) + 1)))), (⟨#[]⟩ : ByteArray)⟩ : S26)] : List (S26)))).bind fun t131 => ((epitomeref04_Same.f k bt115.1 t131).bind fun t134 => (some t134))) else (some false)))) else (some false)) else (some false)) else (some false))))))))) else (none)) else (none))) else (none)) else (none))) = some r := H
  have A4 := Aside0.mk A40
  clear A40
  by_cases c5 : (wrap64 ((wrap64 (Int.tmod a2_0 64)) + 1)) = 0
  · rw [if_pos c5] at H
    exact absurd H (by simp)
  · rw [if_neg c5] at H
    have c5b0 : ((wrap64 ((wrap64 (Int.tmod a2_0 64)) + 1)) == 0) = false := beq_eq_false_iff_ne.mpr c5
    have c5b1 : ((wrap64 ((wrap64 (Int.tmod a2_0 64)) + 1)) != 0) = true := bne_iff_ne.mpr c5
    obtain ⟨ji6, hji6⟩ : ∃ j_ : Int, (mn (a0.size : Int) 20) = j_ := ⟨_, rfl⟩
    replace H : (if 0 ≤ (ji6) then (if (ji6) ≤ (a0.size : Int) then ((epitomeref01_Fit.f k (a0.extract 0 ((ji6) : Int).toNat)).bind fun t103 => (if 0 ≤ (mn (a1.size : Int) 20) then (if (mn (a1.size : Int) 20) ≤ (a1.size : Int) then ((epitomeref01_Fit.f k (a1.extract 0 ((mn (a1.size : Int) 20) : Int).toNat)).bind fun t104 => ((some (([(⟨1, Int.tmod (wrap64 (a2_1)) (wrap64 ((wrap64 (Int.tmod a2_0 64)) + 1)), (⟨#[]⟩ : ByteArray)⟩ : S26), (⟨2, 0, t103⟩ : S26), (⟨1, wrap64 ((wrap64 (Int.tmod a2_0 64)) - (Int.tmod (wrap64 (a2_1)) (wrap64 ((wrap64 (Int.tmod a2_0 64)) + 1)))), (⟨#[]⟩ : ByteArray)⟩ : S26)] : List (S26)) : List (S26))).bind fun y105 => ((some (([(⟨1, Int.tmod (wrap64 (a2_1)) (wrap64 ((wrap64 (Int.tmod a2_0 64)) + 1)), (⟨#[]⟩ : ByteArray)⟩ : S26), (⟨2, 0, t104⟩ : S26), (⟨1, wrap64 ((wrap64 (Int.tmod a2_0 64)) - (Int.tmod (wrap64 (a2_1)) (wrap64 ((wrap64 (Int.tmod a2_0 64)) + 1)))), (⟨#[]⟩ : ByteArray)⟩ : S26)] : List (S26)) : List (S26))).bind fun y108 => ((over_Of.f k y108 y105).bind fun bt111 => ((under_Of.f k y105 y108).bind fun bt115 => ((points_Count.f t103).bind fun t119 => ((points_Count.f t104).bind fun t123 => (if t102 = true then (if bt111.2 = 0 then (if bt115.2 = 0 then ((normal_Of.f k (([(⟨1, wrap64 ((Int.tmod (wrap64 (a2_1)) (wrap64 ((wrap64 (Int.tmod a2_0 64)) + 1))) + t119), (⟨#[]⟩ : ByteArray)⟩ : S26), (⟨2, 0, t104⟩ : S26), (⟨1, wrap64 ((wrap64 (Int.tmod a2_0 64)) - (Int.tmod (wrap64 (a2_1)) (wrap64 ((wrap64 (Int.tmod a2_0 64)) + 1)))), (⟨#[]⟩ : ByteArray)⟩ : S26)] : List (S26)))).bind fun t127 => ((epitomeref04_Same.f k bt111.1 t127).bind fun t130 => (if t130 = true then ((normal_Of.f k (([(⟨1, Int.tmod (wrap64 (a2_1)) (wrap64 ((wrap64 (Int.tmod a2_0 64)) + 1)), (⟨#[]⟩ : ByteArray)⟩ : S26), (⟨2, 0, t103⟩ : S26), (⟨1, wrap64 ((wrap64 (t123 + (wrap64 (Int.tmod a2_0 64)))) - (Int.tmod (wrap64 (a2_1)) (wrap64 ((wrap64 (Int.tmod a2_0 64)) + 1)))), (⟨#[]⟩ : ByteArray)⟩ : S26)] : List (S26)))).bind fun t131 => ((epitomeref04_Same.f k bt115.1 t131).bind fun t134 => (some t134))) else (some false)))) else (some false)) else (some false)) else (some false))))))))) else (none)) else (none))) else (none)) else (none)) = some r := by first | (rw [hji6] at H; exact H) | (simp only [hji6] at H ⊢; exact H)
    (try rw [hji6] at A4)
    (try (have hji6h : ji6 ≤ 20 := by (rw [← hji6]; unfold mn; (repeat' split) <;> omega)))
    (try (have hji6g : ji6 ≤ 64 := by omega))
    (try (have hji6l : 0 ≤ ji6 := by (rw [← hji6]; unfold mn; (repeat' split) <;> omega)))
    (try (have hji6m : 0 ≤ ji6 := by omega))
    have hji6_ : (if 20 < (a0.size : Int) then 20 else (a0.size : Int)) = ji6 := hji6
    by_cases c7 : 0 ≤ (ji6)
    · rw [if_pos c7] at H
      have c7b0 := eq_true c7
      have c7b1 : decide (0 ≤ (ji6)) = true := decide_eq_true c7
      clear c7
      by_cases c8 : (ji6) ≤ (a0.size : Int)
      · rw [if_pos c8] at H
        have c8b0 := eq_true c8
        have c8b1 : decide ((ji6) ≤ (a0.size : Int)) = true := decide_eq_true c8
        clear c8
        replace H := Option.bind_eq_some_iff.mp H
        obtain ⟨t103, A90, H⟩ := H
        replace H : (if 0 ≤ (mn (a1.size : Int) 20) then (if (mn (a1.size : Int) 20) ≤ (a1.size : Int) then ((epitomeref01_Fit.f k (a1.extract 0 ((mn (a1.size : Int) 20) : Int).toNat)).bind fun t104 => ((some (([(⟨1, Int.tmod (wrap64 (a2_1)) (wrap64 ((wrap64 (Int.tmod a2_0 64)) + 1)), (⟨#[]⟩ : ByteArray)⟩ : S26), (⟨2, 0, t103⟩ : S26), (⟨1, wrap64 ((wrap64 (Int.tmod a2_0 64)) - (Int.tmod (wrap64 (a2_1)) (wrap64 ((wrap64 (Int.tmod a2_0 64)) + 1)))), (⟨#[]⟩ : ByteArray)⟩ : S26)] : List (S26)) : List (S26))).bind fun y105 => ((some (([(⟨1, Int.tmod (wrap64 (a2_1)) (wrap64 ((wrap64 (Int.tmod a2_0 64)) + 1)), (⟨#[]⟩ : ByteArray)⟩ : S26), (⟨2, 0, t104⟩ : S26), (⟨1, wrap64 ((wrap64 (Int.tmod a2_0 64)) - (Int.tmod (wrap64 (a2_1)) (wrap64 ((wrap64 (Int.tmod a2_0 64)) + 1)))), (⟨#[]⟩ : ByteArray)⟩ : S26)] : List (S26)) : List (S26))).bind fun y108 => ((over_Of.f k y108 y105).bind fun bt111 => ((under_Of.f k y105 y108).bind fun bt115 => ((points_Count.f t103).bind fun t119 => ((points_Count.f t104).bind fun t123 => (if t102 = true then (if bt111.2 = 0 then (if bt115.2 = 0 then ((normal_Of.f k (([(⟨1, wrap64 ((Int.tmod (wrap64 (a2_1)) (wrap64 ((wrap64 (Int.tmod a2_0 64)) + 1))) + t119), (⟨#[]⟩ : ByteArray)⟩ : S26), (⟨2, 0, t104⟩ : S26), (⟨1, wrap64 ((wrap64 (Int.tmod a2_0 64)) - (Int.tmod (wrap64 (a2_1)) (wrap64 ((wrap64 (Int.tmod a2_0 64)) + 1)))), (⟨#[]⟩ : ByteArray)⟩ : S26)] : List (S26)))).bind fun t127 => ((epitomeref04_Same.f k bt111.1 t127).bind fun t130 => (if t130 = true then ((normal_Of.f k (([(⟨1, Int.tmod (wrap64 (a2_1)) (wrap64 ((wrap64 (Int.tmod a2_0 64)) + 1)), (⟨#[]⟩ : ByteArray)⟩ : S26), (⟨2, 0, t103⟩ : S26), (⟨1, wrap64 ((wrap64 (t123 + (wrap64 (Int.tmod a2_0 64)))) - (Int.tmod (wrap64 (a2_1)) (wrap64 ((wrap64 (Int.tmod a2_0 64)) + 1)))), (⟨#[]⟩ : ByteArray)⟩ : S26)] : List (S26)))).bind fun t131 => ((epitomeref04_Same.f k bt115.1 t131).bind fun t134 => (some t134))) else (some false)))) else (some false)) else (some false)) else (some false))))))))) else (none)) else (none)) = some r := H
        have A9 := Aside0.mk A90
        clear A90
        obtain ⟨ji10, hji10⟩ : ∃ j_ : Int, (mn (a1.size : Int) 20) = j_ := ⟨_, rfl⟩
        replace H : (if 0 ≤ (ji10) then (if (ji10) ≤ (a1.size : Int) then ((epitomeref01_Fit.f k (a1.extract 0 ((ji10) : Int).toNat)).bind fun t104 => ((some (([(⟨1, Int.tmod (wrap64 (a2_1)) (wrap64 ((wrap64 (Int.tmod a2_0 64)) + 1)), (⟨#[]⟩ : ByteArray)⟩ : S26), (⟨2, 0, t103⟩ : S26), (⟨1, wrap64 ((wrap64 (Int.tmod a2_0 64)) - (Int.tmod (wrap64 (a2_1)) (wrap64 ((wrap64 (Int.tmod a2_0 64)) + 1)))), (⟨#[]⟩ : ByteArray)⟩ : S26)] : List (S26)) : List (S26))).bind fun y105 => ((some (([(⟨1, Int.tmod (wrap64 (a2_1)) (wrap64 ((wrap64 (Int.tmod a2_0 64)) + 1)), (⟨#[]⟩ : ByteArray)⟩ : S26), (⟨2, 0, t104⟩ : S26), (⟨1, wrap64 ((wrap64 (Int.tmod a2_0 64)) - (Int.tmod (wrap64 (a2_1)) (wrap64 ((wrap64 (Int.tmod a2_0 64)) + 1)))), (⟨#[]⟩ : ByteArray)⟩ : S26)] : List (S26)) : List (S26))).bind fun y108 => ((over_Of.f k y108 y105).bind fun bt111 => ((under_Of.f k y105 y108).bind fun bt115 => ((points_Count.f t103).bind fun t119 => ((points_Count.f t104).bind fun t123 => (if t102 = true then (if bt111.2 = 0 then (if bt115.2 = 0 then ((normal_Of.f k (([(⟨1, wrap64 ((Int.tmod (wrap64 (a2_1)) (wrap64 ((wrap64 (Int.tmod a2_0 64)) + 1))) + t119), (⟨#[]⟩ : ByteArray)⟩ : S26), (⟨2, 0, t104⟩ : S26), (⟨1, wrap64 ((wrap64 (Int.tmod a2_0 64)) - (Int.tmod (wrap64 (a2_1)) (wrap64 ((wrap64 (Int.tmod a2_0 64)) + 1)))), (⟨#[]⟩ : ByteArray)⟩ : S26)] : List (S26)))).bind fun t127 => ((epitomeref04_Same.f k bt111.1 t127).bind fun t130 => (if t130 = true then ((normal_Of.f k (([(⟨1, Int.tmod (wrap64 (a2_1)) (wrap64 ((wrap64 (Int.tmod a2_0 64)) + 1)), (⟨#[]⟩ : ByteArray)⟩ : S26), (⟨2, 0, t103⟩ : S26), (⟨1, wrap64 ((wrap64 (t123 + (wrap64 (Int.tmod a2_0 64)))) - (Int.tmod (wrap64 (a2_1)) (wrap64 ((wrap64 (Int.tmod a2_0 64)) + 1)))), (⟨#[]⟩ : ByteArray)⟩ : S26)] : List (S26)))).bind fun t131 => ((epitomeref04_Same.f k bt115.1 t131).bind fun t134 => (some t134))) else (some false)))) else (some false)) else (some false)) else (some false))))))))) else (none)) else (none)) = some r := by first | (rw [hji10] at H; exact H) | (simp only [hji10] at H ⊢; exact H)
        (try rw [hji10] at A4)
        (try rw [hji10] at A9)
        (try (have hji10h : ji10 ≤ 20 := by (rw [← hji10]; unfold mn; (repeat' split) <;> omega)))
        (try (have hji10g : ji10 ≤ 64 := by omega))
        (try (have hji10l : 0 ≤ ji10 := by (rw [← hji10]; unfold mn; (repeat' split) <;> omega)))
        (try (have hji10m : 0 ≤ ji10 := by omega))
        have hji10_ : (if 20 < (a1.size : Int) then 20 else (a1.size : Int)) = ji10 := hji10
        by_cases c11 : 0 ≤ (ji10)
        · rw [if_pos c11] at H
          have c11b0 := eq_true c11
          have c11b1 : decide (0 ≤ (ji10)) = true := decide_eq_true c11
          clear c11
          by_cases c12 : (ji10) ≤ (a1.size : Int)
          · rw [if_pos c12] at H
            have c12b0 := eq_true c12
            have c12b1 : decide ((ji10) ≤ (a1.size : Int)) = true := decide_eq_true c12
            clear c12
            replace H := Option.bind_eq_some_iff.mp H
            obtain ⟨t104, A130, H⟩ := H
            replace H : ((some (([(⟨1, Int.tmod (wrap64 (a2_1)) (wrap64 ((wrap64 (Int.tmod a2_0 64)) + 1)), (⟨#[]⟩ : ByteArray)⟩ : S26), (⟨2, 0, t103⟩ : S26), (⟨1, wrap64 ((wrap64 (Int.tmod a2_0 64)) - (Int.tmod (wrap64 (a2_1)) (wrap64 ((wrap64 (Int.tmod a2_0 64)) + 1)))), (⟨#[]⟩ : ByteArray)⟩ : S26)] : List (S26)) : List (S26))).bind fun y105 => ((some (([(⟨1, Int.tmod (wrap64 (a2_1)) (wrap64 ((wrap64 (Int.tmod a2_0 64)) + 1)), (⟨#[]⟩ : ByteArray)⟩ : S26), (⟨2, 0, t104⟩ : S26), (⟨1, wrap64 ((wrap64 (Int.tmod a2_0 64)) - (Int.tmod (wrap64 (a2_1)) (wrap64 ((wrap64 (Int.tmod a2_0 64)) + 1)))), (⟨#[]⟩ : ByteArray)⟩ : S26)] : List (S26)) : List (S26))).bind fun y108 => ((over_Of.f k y108 y105).bind fun bt111 => ((under_Of.f k y105 y108).bind fun bt115 => ((points_Count.f t103).bind fun t119 => ((points_Count.f t104).bind fun t123 => (if t102 = true then (if bt111.2 = 0 then (if bt115.2 = 0 then ((normal_Of.f k (([(⟨1, wrap64 ((Int.tmod (wrap64 (a2_1)) (wrap64 ((wrap64 (Int.tmod a2_0 64)) + 1))) + t119), (⟨#[]⟩ : ByteArray)⟩ : S26), (⟨2, 0, t104⟩ : S26), (⟨1, wrap64 ((wrap64 (Int.tmod a2_0 64)) - (Int.tmod (wrap64 (a2_1)) (wrap64 ((wrap64 (Int.tmod a2_0 64)) + 1)))), (⟨#[]⟩ : ByteArray)⟩ : S26)] : List (S26)))).bind fun t127 => ((epitomeref04_Same.f k bt111.1 t127).bind fun t130 => (if t130 = true then ((normal_Of.f k (([(⟨1, Int.tmod (wrap64 (a2_1)) (wrap64 ((wrap64 (Int.tmod a2_0 64)) + 1)), (⟨#[]⟩ : ByteArray)⟩ : S26), (⟨2, 0, t103⟩ : S26), (⟨1, wrap64 ((wrap64 (t123 + (wrap64 (Int.tmod a2_0 64)))) - (Int.tmod (wrap64 (a2_1)) (wrap64 ((wrap64 (Int.tmod a2_0 64)) + 1)))), (⟨#[]⟩ : ByteArray)⟩ : S26)] : List (S26)))).bind fun t131 => ((epitomeref04_Same.f k bt115.1 t131).bind fun t134 => (some t134))) else (some false)))) else (some false)) else (some false)) else (some false)))))))) = some r := H
            have A13 := Aside0.mk A130
            clear A130
            obtain ⟨y105, hy105⟩ : ∃ y_ : List (S26), y_ = (([(⟨1, Int.tmod (wrap64 (a2_1)) (wrap64 ((wrap64 (Int.tmod a2_0 64)) + 1)), (⟨#[]⟩ : ByteArray)⟩ : S26), (⟨2, 0, t103⟩ : S26), (⟨1, wrap64 ((wrap64 (Int.tmod a2_0 64)) - (Int.tmod (wrap64 (a2_1)) (wrap64 ((wrap64 (Int.tmod a2_0 64)) + 1)))), (⟨#[]⟩ : ByteArray)⟩ : S26)] : List (S26))) := ⟨_, rfl⟩
            replace H : ((some (([(⟨1, Int.tmod (wrap64 (a2_1)) (wrap64 ((wrap64 (Int.tmod a2_0 64)) + 1)), (⟨#[]⟩ : ByteArray)⟩ : S26), (⟨2, 0, t104⟩ : S26), (⟨1, wrap64 ((wrap64 (Int.tmod a2_0 64)) - (Int.tmod (wrap64 (a2_1)) (wrap64 ((wrap64 (Int.tmod a2_0 64)) + 1)))), (⟨#[]⟩ : ByteArray)⟩ : S26)] : List (S26)) : List (S26))).bind fun y108 => ((over_Of.f k y108 y105).bind fun bt111 => ((under_Of.f k y105 y108).bind fun bt115 => ((points_Count.f t103).bind fun t119 => ((points_Count.f t104).bind fun t123 => (if t102 = true then (if bt111.2 = 0 then (if bt115.2 = 0 then ((normal_Of.f k (([(⟨1, wrap64 ((Int.tmod (wrap64 (a2_1)) (wrap64 ((wrap64 (Int.tmod a2_0 64)) + 1))) + t119), (⟨#[]⟩ : ByteArray)⟩ : S26), (⟨2, 0, t104⟩ : S26), (⟨1, wrap64 ((wrap64 (Int.tmod a2_0 64)) - (Int.tmod (wrap64 (a2_1)) (wrap64 ((wrap64 (Int.tmod a2_0 64)) + 1)))), (⟨#[]⟩ : ByteArray)⟩ : S26)] : List (S26)))).bind fun t127 => ((epitomeref04_Same.f k bt111.1 t127).bind fun t130 => (if t130 = true then ((normal_Of.f k (([(⟨1, Int.tmod (wrap64 (a2_1)) (wrap64 ((wrap64 (Int.tmod a2_0 64)) + 1)), (⟨#[]⟩ : ByteArray)⟩ : S26), (⟨2, 0, t103⟩ : S26), (⟨1, wrap64 ((wrap64 (t123 + (wrap64 (Int.tmod a2_0 64)))) - (Int.tmod (wrap64 (a2_1)) (wrap64 ((wrap64 (Int.tmod a2_0 64)) + 1)))), (⟨#[]⟩ : ByteArray)⟩ : S26)] : List (S26)))).bind fun t131 => ((epitomeref04_Same.f k bt115.1 t131).bind fun t134 => (some t134))) else (some false)))) else (some false)) else (some false)) else (some false))))))) = some r := by first | (rw [hy105]; with_reducible exact H) | (have H2_ := (Option.bind_some _ _).symm.trans H; rw [hy105]; with_reducible exact H2_) | (have H2_ := (Option.bind_some _ _).symm.trans H; with_reducible exact H2_) | with_reducible exact H | (rw [hy105]; exact H) | exact H
            have Ny105 := Aside0.mk hy105
            clear hy105
            obtain ⟨y108, hy108⟩ : ∃ y_ : List (S26), y_ = (([(⟨1, Int.tmod (wrap64 (a2_1)) (wrap64 ((wrap64 (Int.tmod a2_0 64)) + 1)), (⟨#[]⟩ : ByteArray)⟩ : S26), (⟨2, 0, t104⟩ : S26), (⟨1, wrap64 ((wrap64 (Int.tmod a2_0 64)) - (Int.tmod (wrap64 (a2_1)) (wrap64 ((wrap64 (Int.tmod a2_0 64)) + 1)))), (⟨#[]⟩ : ByteArray)⟩ : S26)] : List (S26))) := ⟨_, rfl⟩
            replace H : ((over_Of.f k y108 y105).bind fun bt111 => ((under_Of.f k y105 y108).bind fun bt115 => ((points_Count.f t103).bind fun t119 => ((points_Count.f t104).bind fun t123 => (if t102 = true then (if bt111.2 = 0 then (if bt115.2 = 0 then ((normal_Of.f k (([(⟨1, wrap64 ((Int.tmod (wrap64 (a2_1)) (wrap64 ((wrap64 (Int.tmod a2_0 64)) + 1))) + t119), (⟨#[]⟩ : ByteArray)⟩ : S26), (⟨2, 0, t104⟩ : S26), (⟨1, wrap64 ((wrap64 (Int.tmod a2_0 64)) - (Int.tmod (wrap64 (a2_1)) (wrap64 ((wrap64 (Int.tmod a2_0 64)) + 1)))), (⟨#[]⟩ : ByteArray)⟩ : S26)] : List (S26)))).bind fun t127 => ((epitomeref04_Same.f k bt111.1 t127).bind fun t130 => (if t130 = true then ((normal_Of.f k (([(⟨1, Int.tmod (wrap64 (a2_1)) (wrap64 ((wrap64 (Int.tmod a2_0 64)) + 1)), (⟨#[]⟩ : ByteArray)⟩ : S26), (⟨2, 0, t103⟩ : S26), (⟨1, wrap64 ((wrap64 (t123 + (wrap64 (Int.tmod a2_0 64)))) - (Int.tmod (wrap64 (a2_1)) (wrap64 ((wrap64 (Int.tmod a2_0 64)) + 1)))), (⟨#[]⟩ : ByteArray)⟩ : S26)] : List (S26)))).bind fun t131 => ((epitomeref04_Same.f k bt115.1 t131).bind fun t134 => (some t134))) else (some false)))) else (some false)) else (some false)) else (some false)))))) = some r := by first | (rw [hy108]; with_reducible exact H) | (have H2_ := (Option.bind_some _ _).symm.trans H; rw [hy108]; with_reducible exact H2_) | (have H2_ := (Option.bind_some _ _).symm.trans H; with_reducible exact H2_) | with_reducible exact H | (rw [hy108]; exact H) | exact H
            have Ny108 := Aside0.mk hy108
            clear hy108
            replace H := Option.bind_eq_some_iff.mp H
            obtain ⟨⟨t111, t112⟩, A140, H⟩ := H
            replace H : ((under_Of.f k y105 y108).bind fun bt115 => ((points_Count.f t103).bind fun t119 => ((points_Count.f t104).bind fun t123 => (if t102 = true then (if t112 = 0 then (if bt115.2 = 0 then ((normal_Of.f k (([(⟨1, wrap64 ((Int.tmod (wrap64 (a2_1)) (wrap64 ((wrap64 (Int.tmod a2_0 64)) + 1))) + t119), (⟨#[]⟩ : ByteArray)⟩ : S26), (⟨2, 0, t104⟩ : S26), (⟨1, wrap64 ((wrap64 (Int.tmod a2_0 64)) - (Int.tmod (wrap64 (a2_1)) (wrap64 ((wrap64 (Int.tmod a2_0 64)) + 1)))), (⟨#[]⟩ : ByteArray)⟩ : S26)] : List (S26)))).bind fun t127 => ((epitomeref04_Same.f k t111 t127).bind fun t130 => (if t130 = true then ((normal_Of.f k (([(⟨1, Int.tmod (wrap64 (a2_1)) (wrap64 ((wrap64 (Int.tmod a2_0 64)) + 1)), (⟨#[]⟩ : ByteArray)⟩ : S26), (⟨2, 0, t103⟩ : S26), (⟨1, wrap64 ((wrap64 (t123 + (wrap64 (Int.tmod a2_0 64)))) - (Int.tmod (wrap64 (a2_1)) (wrap64 ((wrap64 (Int.tmod a2_0 64)) + 1)))), (⟨#[]⟩ : ByteArray)⟩ : S26)] : List (S26)))).bind fun t131 => ((epitomeref04_Same.f k bt115.1 t131).bind fun t134 => (some t134))) else (some false)))) else (some false)) else (some false)) else (some false))))) = some r := H
            have A14 := Aside0.mk A140
            clear A140
            replace H := Option.bind_eq_some_iff.mp H
            obtain ⟨⟨t115, t116⟩, A150, H⟩ := H
            replace H : ((points_Count.f t103).bind fun t119 => ((points_Count.f t104).bind fun t123 => (if t102 = true then (if t112 = 0 then (if t116 = 0 then ((normal_Of.f k (([(⟨1, wrap64 ((Int.tmod (wrap64 (a2_1)) (wrap64 ((wrap64 (Int.tmod a2_0 64)) + 1))) + t119), (⟨#[]⟩ : ByteArray)⟩ : S26), (⟨2, 0, t104⟩ : S26), (⟨1, wrap64 ((wrap64 (Int.tmod a2_0 64)) - (Int.tmod (wrap64 (a2_1)) (wrap64 ((wrap64 (Int.tmod a2_0 64)) + 1)))), (⟨#[]⟩ : ByteArray)⟩ : S26)] : List (S26)))).bind fun t127 => ((epitomeref04_Same.f k t111 t127).bind fun t130 => (if t130 = true then ((normal_Of.f k (([(⟨1, Int.tmod (wrap64 (a2_1)) (wrap64 ((wrap64 (Int.tmod a2_0 64)) + 1)), (⟨#[]⟩ : ByteArray)⟩ : S26), (⟨2, 0, t103⟩ : S26), (⟨1, wrap64 ((wrap64 (t123 + (wrap64 (Int.tmod a2_0 64)))) - (Int.tmod (wrap64 (a2_1)) (wrap64 ((wrap64 (Int.tmod a2_0 64)) + 1)))), (⟨#[]⟩ : ByteArray)⟩ : S26)] : List (S26)))).bind fun t131 => ((epitomeref04_Same.f k t115 t131).bind fun t134 => (some t134))) else (some false)))) else (some false)) else (some false)) else (some false)))) = some r := H
            have A15 := Aside0.mk A150
            clear A150
            replace H := Option.bind_eq_some_iff.mp H
            obtain ⟨t119, A160, H⟩ := H
            replace H : ((points_Count.f t104).bind fun t123 => (if t102 = true then (if t112 = 0 then (if t116 = 0 then ((normal_Of.f k (([(⟨1, wrap64 ((Int.tmod (wrap64 (a2_1)) (wrap64 ((wrap64 (Int.tmod a2_0 64)) + 1))) + t119), (⟨#[]⟩ : ByteArray)⟩ : S26), (⟨2, 0, t104⟩ : S26), (⟨1, wrap64 ((wrap64 (Int.tmod a2_0 64)) - (Int.tmod (wrap64 (a2_1)) (wrap64 ((wrap64 (Int.tmod a2_0 64)) + 1)))), (⟨#[]⟩ : ByteArray)⟩ : S26)] : List (S26)))).bind fun t127 => ((epitomeref04_Same.f k t111 t127).bind fun t130 => (if t130 = true then ((normal_Of.f k (([(⟨1, Int.tmod (wrap64 (a2_1)) (wrap64 ((wrap64 (Int.tmod a2_0 64)) + 1)), (⟨#[]⟩ : ByteArray)⟩ : S26), (⟨2, 0, t103⟩ : S26), (⟨1, wrap64 ((wrap64 (t123 + (wrap64 (Int.tmod a2_0 64)))) - (Int.tmod (wrap64 (a2_1)) (wrap64 ((wrap64 (Int.tmod a2_0 64)) + 1)))), (⟨#[]⟩ : ByteArray)⟩ : S26)] : List (S26)))).bind fun t131 => ((epitomeref04_Same.f k t115 t131).bind fun t134 => (some t134))) else (some false)))) else (some false)) else (some false)) else (some false))) = some r := H
            have A16 := Aside0.mk A160
            clear A160
            obtain ⟨y120, hy120⟩ : ∃ y_ : List (S26), y_ = (([(⟨1, wrap64 ((Int.tmod (wrap64 (a2_1)) (wrap64 ((wrap64 (Int.tmod a2_0 64)) + 1))) + t119), (⟨#[]⟩ : ByteArray)⟩ : S26), (⟨2, 0, t104⟩ : S26), (⟨1, wrap64 ((wrap64 (Int.tmod a2_0 64)) - (Int.tmod (wrap64 (a2_1)) (wrap64 ((wrap64 (Int.tmod a2_0 64)) + 1)))), (⟨#[]⟩ : ByteArray)⟩ : S26)] : List (S26))) := ⟨_, rfl⟩
            replace H : ((points_Count.f t104).bind fun t123 => (if t102 = true then (if t112 = 0 then (if t116 = 0 then ((normal_Of.f k y120).bind fun t127 => ((epitomeref04_Same.f k t111 t127).bind fun t130 => (if t130 = true then ((normal_Of.f k (([(⟨1, Int.tmod (wrap64 (a2_1)) (wrap64 ((wrap64 (Int.tmod a2_0 64)) + 1)), (⟨#[]⟩ : ByteArray)⟩ : S26), (⟨2, 0, t103⟩ : S26), (⟨1, wrap64 ((wrap64 (t123 + (wrap64 (Int.tmod a2_0 64)))) - (Int.tmod (wrap64 (a2_1)) (wrap64 ((wrap64 (Int.tmod a2_0 64)) + 1)))), (⟨#[]⟩ : ByteArray)⟩ : S26)] : List (S26)))).bind fun t131 => ((epitomeref04_Same.f k t115 t131).bind fun t134 => (some t134))) else (some false)))) else (some false)) else (some false)) else (some false))) = some r := by first | (rw [hy120]; with_reducible exact H) | (have H2_ := (Option.bind_some _ _).symm.trans H; rw [hy120]; with_reducible exact H2_) | (have H2_ := (Option.bind_some _ _).symm.trans H; with_reducible exact H2_) | with_reducible exact H | (rw [hy120]; exact H) | exact H
            have Ny120 := Aside0.mk hy120
            clear hy120
            replace H := Option.bind_eq_some_iff.mp H
            obtain ⟨t123, A170, H⟩ := H
            replace H : (if t102 = true then (if t112 = 0 then (if t116 = 0 then ((normal_Of.f k y120).bind fun t127 => ((epitomeref04_Same.f k t111 t127).bind fun t130 => (if t130 = true then ((normal_Of.f k (([(⟨1, Int.tmod (wrap64 (a2_1)) (wrap64 ((wrap64 (Int.tmod a2_0 64)) + 1)), (⟨#[]⟩ : ByteArray)⟩ : S26), (⟨2, 0, t103⟩ : S26), (⟨1, wrap64 ((wrap64 (t123 + (wrap64 (Int.tmod a2_0 64)))) - (Int.tmod (wrap64 (a2_1)) (wrap64 ((wrap64 (Int.tmod a2_0 64)) + 1)))), (⟨#[]⟩ : ByteArray)⟩ : S26)] : List (S26)))).bind fun t131 => ((epitomeref04_Same.f k t115 t131).bind fun t134 => (some t134))) else (some false)))) else (some false)) else (some false)) else (some false)) = some r := H
            have A17 := Aside0.mk A170
            clear A170
            obtain ⟨y124, hy124⟩ : ∃ y_ : List (S26), y_ = (([(⟨1, Int.tmod (wrap64 (a2_1)) (wrap64 ((wrap64 (Int.tmod a2_0 64)) + 1)), (⟨#[]⟩ : ByteArray)⟩ : S26), (⟨2, 0, t103⟩ : S26), (⟨1, wrap64 ((wrap64 (t123 + (wrap64 (Int.tmod a2_0 64)))) - (Int.tmod (wrap64 (a2_1)) (wrap64 ((wrap64 (Int.tmod a2_0 64)) + 1)))), (⟨#[]⟩ : ByteArray)⟩ : S26)] : List (S26))) := ⟨_, rfl⟩
            replace H : (if t102 = true then (if t112 = 0 then (if t116 = 0 then ((normal_Of.f k y120).bind fun t127 => ((epitomeref04_Same.f k t111 t127).bind fun t130 => (if t130 = true then ((normal_Of.f k y124).bind fun t131 => ((epitomeref04_Same.f k t115 t131).bind fun t134 => (some t134))) else (some false)))) else (some false)) else (some false)) else (some false)) = some r := by first | (rw [hy124]; with_reducible exact H) | (have H2_ := (Option.bind_some _ _).symm.trans H; rw [hy124]; with_reducible exact H2_) | (have H2_ := (Option.bind_some _ _).symm.trans H; with_reducible exact H2_) | with_reducible exact H | (rw [hy124]; exact H) | exact H
            have Ny124 := Aside0.mk hy124
            clear hy124
            by_cases c18 : t102 = true
            · subst c18
              have H1 : (if t112 = 0 then (if t116 = 0 then ((normal_Of.f k y120).bind fun t127 => ((epitomeref04_Same.f k t111 t127).bind fun t130 => (if t130 = true then ((normal_Of.f k y124).bind fun t131 => ((epitomeref04_Same.f k t115 t131).bind fun t134 => (some t134))) else (some false)))) else (some false)) else (some false)) = some r := by rw [if_pos rfl] at H; exact H
              clear H
              have H := H1
              clear H1
              by_cases c19 : t112 = 0
              · rw [if_pos c19] at H
                have c19b0 : (t112 == 0) = true := beq_iff_eq.mpr c19
                have c19b1 : (t112 != 0) = false := bne_eq_false_iff_eq.mpr c19
                clear c19
                by_cases c20 : t116 = 0
                · rw [if_pos c20] at H
                  have c20b0 : (t116 == 0) = true := beq_iff_eq.mpr c20
                  have c20b1 : (t116 != 0) = false := bne_eq_false_iff_eq.mpr c20
                  clear c20
                  replace H := Option.bind_eq_some_iff.mp H
                  obtain ⟨t127, A210, H⟩ := H
                  replace H : ((epitomeref04_Same.f k t111 t127).bind fun t130 => (if t130 = true then ((normal_Of.f k y124).bind fun t131 => ((epitomeref04_Same.f k t115 t131).bind fun t134 => (some t134))) else (some false))) = some r := H
                  have A21 := Aside0.mk A210
                  clear A210
                  replace H := Option.bind_eq_some_iff.mp H
                  obtain ⟨t130, A220, H⟩ := H
                  replace H : (if t130 = true then ((normal_Of.f k y124).bind fun t131 => ((epitomeref04_Same.f k t115 t131).bind fun t134 => (some t134))) else (some false)) = some r := H
                  have A22 := Aside0.mk A220
                  clear A220
                  by_cases c23 : t130 = true
                  · subst c23
                    have H1 : ((normal_Of.f k y124).bind fun t131 => ((epitomeref04_Same.f k t115 t131).bind fun t134 => (some t134))) = some r := by rw [if_pos rfl] at H; exact H
                    clear H
                    have H := H1
                    clear H1
                    replace H := Option.bind_eq_some_iff.mp H
                    obtain ⟨t131, A240, H⟩ := H
                    replace H : ((epitomeref04_Same.f k t115 t131).bind fun t134 => (some t134)) = some r := H
                    have A24 := Aside0.mk A240
                    clear A240
                    replace H := Option.bind_eq_some_iff.mp H
                    obtain ⟨t134, A250, H⟩ := H
                    replace H : (some t134) = some r := H
                    have A25 := Aside0.mk A250
                    clear A250
                    obtain rfl := Option.some.inj H
                    go_enter Tryd.func3, Tryd.ntmps3
                    go_wp2_with (first | ((with_reducible refine gate_dst (N := 5) rfl ?_); refine box_event ?hg (N := 5) ?hd (cs := #[.int .u8 a2_0, .int .u8 a2_1]) (t := 22) ?hr ?_; (case hd => rfl); (case hg => rfl); (case hr => first | (go_simp; done) | (go_simp; rfl)); intro gb101 hg w26 hbox hb; have n0_ := Aside0.mk (below_step (by repeat (first | (with_reducible first | exact HB.out | apply below_alloc | apply pw_below_drewN | apply below_drew1) | exact HB.out)) hb); have n1_ := Aside0.mk (hbox); have n2_ := Aside0.mk ((by rw [hg]; exact (below_size (by repeat (first | (with_reducible first | exact HB.out | apply below_alloc | apply pw_below_drewN | apply below_drew1) | exact HB.out))) : w.heap.size ≤ gb101)); have n3_ := Aside0.mk ((by rw [hg]; exact (below_size (by repeat (first | (with_reducible first | exact HB.out | apply below_alloc | apply pw_below_drewN | apply below_drew1) | exact HB.out))) : w.heap.size ≤ gb101)); clear HB; have HB := n0_; have BK101 := n1_; have GW101 := n2_; have GE101 := n3_; clear n0_ n1_ n2_ n3_; clear hb hbox hg) | ((with_reducible refine gate_callee (f := 13) rfl ?_); refine goesL_ (some 20) rfl rfl Tryd.func13 (by kernel_rfl) rfl #[] rfl (by (try simp only [List.map_toArray, List.map_cons, List.map_nil]); first | done | rfl | (simp only [List.length_drop, List.length_take]; rfl)) ?_; (with_reducible refine (epitomelaw12_shown.calls k  true _ ?side1 A4.out).mono ?_); (case side1 => first | (with_reducible exact HG.out) | exact Glob.below HG.out (by repeat (first | (with_reducible first | exact HB.out | apply below_alloc | apply pw_below_drewN | apply below_drew1 | refine below_set ?_ GE101.out) | exact HB.out)) | exact Glob.drawn HG.out (by repeat (first | exact Drawn0.refl _ | apply Drawn0.step))); rintro e w27 ⟨rfl, hb⟩; refine ⟨_, rfl, ?_⟩; have n0_ := Aside0.mk (blk_below (g := gb101) (o := .cells #[.int .u8 a2_0, .int .u8 a2_1] 22 (0, 0)) (by (with_reducible repeat (first | refine blk_drewN ?_ _ | refine blk_drew ?_ | refine blk_alloc ?_ _)); exact BK101.out) hb); have n1_ := Aside0.mk (below_step (by repeat (first | (with_reducible first | exact HB.out | apply below_alloc | apply pw_below_drewN | apply below_drew1 | refine below_set ?_ GE101.out) | exact HB.out)) hb); clear BK101; clear HB; have BK101 := n0_; have HB := n1_; clear n0_ n1_; (try clear hb); (try clear hb2); (try clear hk); (try clear hi); have hcz28_0 : w27.cell? ⟨gb101, 0, none⟩ = some (.int .u8 a2_0) := (blk_cell BK101.out 0).trans rfl; have hcz28_1 : w27.cell? ⟨gb101, 1, none⟩ = some (.int .u8 a2_1) := (blk_cell BK101.out 1).trans rfl; have hfz28_0 := blk_frozen BK101.out 0; have hfz28_1 := blk_frozen BK101.out 1) | ((with_reducible refine gate_callee (f := 14) rfl ?_); refine goesL_ (some 36) rfl rfl Tryd.func14 (by kernel_rfl) rfl #[.string (a0.extract 0 ((ji6) : Int).toNat)] rfl (by (try simp only [List.map_toArray, List.map_cons, List.map_nil]); first | done | (simp only [hji6]; rfl) | rfl | (simp only [List.length_drop, List.length_take]; rfl)) ?_; (with_reducible refine (epitomeref01_Fit.calls k (a0.extract 0 ((ji6) : Int).toNat) t103 _ A9.out).mono ?_); rintro e w29 ⟨rfl, hb⟩; refine ⟨_, rfl, ?_⟩; have n0_ := Aside0.mk (blk_below (g := gb101) (o := .cells #[.int .u8 a2_0, .int .u8 a2_1] 22 (0, 0)) (by (with_reducible repeat (first | refine blk_drewN ?_ _ | refine blk_drew ?_ | refine blk_alloc ?_ _)); exact BK101.out) hb); have n1_ := Aside0.mk (below_step (by repeat (first | (with_reducible first | exact HB.out | apply below_alloc | apply pw_below_drewN | apply below_drew1 | refine below_set ?_ GE101.out) | exact HB.out)) hb); clear BK101; clear HB; have BK101 := n0_; have HB := n1_; clear n0_ n1_; (try clear hb); (try clear hb2); (try clear hk); (try clear hi); (try clear A9)) | ((with_reducible refine gate_callee (f := 14) rfl ?_); refine goesL_ (some 42) rfl rfl Tryd.func14 (by kernel_rfl) rfl #[.string (a1.extract 0 ((ji10) : Int).toNat)] rfl (by (try simp only [List.map_toArray, List.map_cons, List.map_nil]); first | done | (simp only [hji10]; rfl) | rfl | (simp only [List.length_drop, List.length_take]; rfl)) ?_; (with_reducible refine (epitomeref01_Fit.calls k (a1.extract 0 ((ji10) : Int).toNat) t104 _ A13.out).mono ?_); rintro e w30 ⟨rfl, hb⟩; refine ⟨_, rfl, ?_⟩; have n0_ := Aside0.mk (blk_below (g := gb101) (o := .cells #[.int .u8 a2_0, .int .u8 a2_1] 22 (0, 0)) (by (with_reducible repeat (first | refine blk_drewN ?_ _ | refine blk_drew ?_ | refine blk_alloc ?_ _)); exact BK101.out) hb); have n1_ := Aside0.mk (below_step (by repeat (first | (with_reducible first | exact HB.out | apply below_alloc | apply pw_below_drewN | apply below_drew1 | refine below_set ?_ GE101.out) | exact HB.out)) hb); clear BK101; clear HB; have BK101 := n0_; have HB := n1_; clear n0_ n1_; (try clear hb); (try clear hb2); (try clear hk); (try clear hi); (try clear A13)) | ((with_reducible refine gate_dst (N := 51) rfl ?_); refine Kd.R_lit k26 _ 26 ?hg (N := 51) ?hd (xs := ([(⟨1, Int.tmod (wrap64 (a2_1)) (wrap64 ((wrap64 (Int.tmod a2_0 64)) + 1)), (⟨#[]⟩ : ByteArray)⟩ : S26), (⟨2, 0, t103⟩ : S26), (⟨1, wrap64 ((wrap64 (Int.tmod a2_0 64)) - (Int.tmod (wrap64 (a2_1)) (wrap64 ((wrap64 (Int.tmod a2_0 64)) + 1)))), (⟨#[]⟩ : ByteArray)⟩ : S26)] : List (S26))) (inner := [.int .i64 1, .int .i64 (Int.tmod (wrap64 (a2_1)) (wrap64 ((wrap64 (Int.tmod a2_0 64)) + 1))), .string (⟨#[]⟩ : ByteArray), .int .i64 2, .int .i64 0, .string t103, .int .i64 1, .int .i64 (wrap64 ((wrap64 (Int.tmod a2_0 64)) - (Int.tmod (wrap64 (a2_1)) (wrap64 ((wrap64 (Int.tmod a2_0 64)) + 1))))), .string (⟨#[]⟩ : ByteArray)]) (ok := fun _ => True) (okp := fun _ => True) ?hr ?hp (fun _ hk => hk) trivial (Below.refl _ _) (Nat.le_refl _) (by simp) ?_; (case hd => rfl); (case hg => rfl); (case hr => first | (go_simp; done) | (go_simp; rfl)); (case hp => exact (Reps.c3 (show Kd.M k26 _ _ _ (⟨1, Int.tmod (wrap64 (a2_1)) (wrap64 ((wrap64 (Int.tmod a2_0 64)) + 1)), (⟨#[]⟩ : ByteArray)⟩ : S26) [.int .i64 1, .int .i64 (Int.tmod (wrap64 (a2_1)) (wrap64 ((wrap64 (Int.tmod a2_0 64)) + 1))), .string (⟨#[]⟩ : ByteArray)] from (k26_mkM _ _ _ (⟨1, Int.tmod (wrap64 (a2_1)) (wrap64 ((wrap64 (Int.tmod a2_0 64)) + 1)), (⟨#[]⟩ : ByteArray)⟩ : S26) )) (Reps.c3 (show Kd.M k26 _ _ _ (⟨2, 0, t103⟩ : S26) [.int .i64 2, .int .i64 0, .string t103] from (k26_mkM _ _ _ (⟨2, 0, t103⟩ : S26) )) (Reps.c3 (show Kd.M k26 _ _ _ (⟨1, wrap64 ((wrap64 (Int.tmod a2_0 64)) - (Int.tmod (wrap64 (a2_1)) (wrap64 ((wrap64 (Int.tmod a2_0 64)) + 1)))), (⟨#[]⟩ : ByteArray)⟩ : S26) [.int .i64 1, .int .i64 (wrap64 ((wrap64 (Int.tmod a2_0 64)) - (Int.tmod (wrap64 (a2_1)) (wrap64 ((wrap64 (Int.tmod a2_0 64)) + 1))))), .string (⟨#[]⟩ : ByteArray)] from (k26_mkM _ _ _ (⟨1, wrap64 ((wrap64 (Int.tmod a2_0 64)) - (Int.tmod (wrap64 (a2_1)) (wrap64 ((wrap64 (Int.tmod a2_0 64)) + 1)))), (⟨#[]⟩ : ByteArray)⟩ : S26) )) (Reps.none _ _))))); intro v106 w31 ho32 hb hg_ hnew_; clear hg_ hnew_; (first | rw [← Ny105.out] at ho32 | (simp only [Int.reduceToNat] at ho32; rw [← Ny105.out] at ho32)); have n0_ := Aside0.mk (Kd.R_lower ho32 (below_size (by repeat (first | (with_reducible first | exact HB.out | apply below_alloc | apply pw_below_drewN | apply below_drew1 | refine below_set ?_ GE101.out) | exact HB.out)))); have n1_ := Aside0.mk (blk_below (g := gb101) (o := .cells #[.int .u8 a2_0, .int .u8 a2_1] 22 (0, 0)) (by (with_reducible repeat (first | refine blk_drewN ?_ _ | refine blk_drew ?_ | refine blk_alloc ?_ _)); exact BK101.out) hb); have n2_ := Aside0.mk (below_step (by repeat (first | (with_reducible first | exact HB.out | apply below_alloc | apply pw_below_drewN | apply below_drew1 | refine below_set ?_ GE101.out) | exact HB.out)) hb); clear BK101; clear HB; have HO107 := n0_; have BK101 := n1_; have HB := n2_; clear n0_ n1_ n2_; clear hb ho32) | ((with_reducible refine gate_dst (N := 60) rfl ?_); refine Kd.R_lit k26 _ 26 ?hg (N := 60) ?hd (xs := ([(⟨1, Int.tmod (wrap64 (a2_1)) (wrap64 ((wrap64 (Int.tmod a2_0 64)) + 1)), (⟨#[]⟩ : ByteArray)⟩ : S26), (⟨2, 0, t104⟩ : S26), (⟨1, wrap64 ((wrap64 (Int.tmod a2_0 64)) - (Int.tmod (wrap64 (a2_1)) (wrap64 ((wrap64 (Int.tmod a2_0 64)) + 1)))), (⟨#[]⟩ : ByteArray)⟩ : S26)] : List (S26))) (inner := [.int .i64 1, .int .i64 (Int.tmod (wrap64 (a2_1)) (wrap64 ((wrap64 (Int.tmod a2_0 64)) + 1))), .string (⟨#[]⟩ : ByteArray), .int .i64 2, .int .i64 0, .string t104, .int .i64 1, .int .i64 (wrap64 ((wrap64 (Int.tmod a2_0 64)) - (Int.tmod (wrap64 (a2_1)) (wrap64 ((wrap64 (Int.tmod a2_0 64)) + 1))))), .string (⟨#[]⟩ : ByteArray)]) (ok := fun _ => True) (okp := fun _ => True) ?hr ?hp (fun _ hk => hk) trivial (Below.refl _ _) (Nat.le_refl _) (by simp) ?_; (case hd => rfl); (case hg => rfl); (case hr => first | (go_simp; done) | (go_simp; rfl)); (case hp => exact (Reps.c3 (show Kd.M k26 _ _ _ (⟨1, Int.tmod (wrap64 (a2_1)) (wrap64 ((wrap64 (Int.tmod a2_0 64)) + 1)), (⟨#[]⟩ : ByteArray)⟩ : S26) [.int .i64 1, .int .i64 (Int.tmod (wrap64 (a2_1)) (wrap64 ((wrap64 (Int.tmod a2_0 64)) + 1))), .string (⟨#[]⟩ : ByteArray)] from (k26_mkM _ _ _ (⟨1, Int.tmod (wrap64 (a2_1)) (wrap64 ((wrap64 (Int.tmod a2_0 64)) + 1)), (⟨#[]⟩ : ByteArray)⟩ : S26) )) (Reps.c3 (show Kd.M k26 _ _ _ (⟨2, 0, t104⟩ : S26) [.int .i64 2, .int .i64 0, .string t104] from (k26_mkM _ _ _ (⟨2, 0, t104⟩ : S26) )) (Reps.c3 (show Kd.M k26 _ _ _ (⟨1, wrap64 ((wrap64 (Int.tmod a2_0 64)) - (Int.tmod (wrap64 (a2_1)) (wrap64 ((wrap64 (Int.tmod a2_0 64)) + 1)))), (⟨#[]⟩ : ByteArray)⟩ : S26) [.int .i64 1, .int .i64 (wrap64 ((wrap64 (Int.tmod a2_0 64)) - (Int.tmod (wrap64 (a2_1)) (wrap64 ((wrap64 (Int.tmod a2_0 64)) + 1))))), .string (⟨#[]⟩ : ByteArray)] from (k26_mkM _ _ _ (⟨1, wrap64 ((wrap64 (Int.tmod a2_0 64)) - (Int.tmod (wrap64 (a2_1)) (wrap64 ((wrap64 (Int.tmod a2_0 64)) + 1)))), (⟨#[]⟩ : ByteArray)⟩ : S26) )) (Reps.none _ _))))); intro v109 w33 ho34 hb hg_ hnew_; clear hg_ hnew_; (first | rw [← Ny108.out] at ho34 | (simp only [Int.reduceToNat] at ho34; rw [← Ny108.out] at ho34)); have n0_ := Aside0.mk (Kd.R_elder' (by (with_reducible repeat (first | apply Kd.R_alloc | apply Kd.R_drewN | apply Kd.R_drew)); exact HO107.out) (Kd.R_base ho34) hb); have n1_ := Aside0.mk (Kd.R_lower (Kd.R_new' ho34 (Kd.R_lt (by (with_reducible repeat (first | apply Kd.R_alloc | apply Kd.R_drewN | apply Kd.R_drew)); exact HO107.out))) (below_size (by repeat (first | (with_reducible first | exact HB.out | apply below_alloc | apply pw_below_drewN | apply below_drew1 | refine below_set ?_ GE101.out) | exact HB.out)))); have n2_ := Aside0.mk (blk_below (g := gb101) (o := .cells #[.int .u8 a2_0, .int .u8 a2_1] 22 (0, 0)) (by (with_reducible repeat (first | refine blk_drewN ?_ _ | refine blk_drew ?_ | refine blk_alloc ?_ _)); exact BK101.out) hb); have n3_ := Aside0.mk (below_step (by repeat (first | (with_reducible first | exact HB.out | apply below_alloc | apply pw_below_drewN | apply below_drew1 | refine below_set ?_ GE101.out) | exact HB.out)) hb); clear HO107; clear BK101; clear HB; have HO107 := n0_; have HO110 := n1_; have BK101 := n2_; have HB := n3_; clear n0_ n1_ n2_ n3_; clear hb ho34; obtain ⟨Ao35, co35, eo35⟩ := Kd.R_slice HO110.out; subst eo35; obtain ⟨Ao36, co36, eo36⟩ := Kd.R_slice HO107.out; subst eo36) | ((with_reducible refine gate_callee (f := 15) rfl ?_); refine goesL_ (some 64) rfl rfl Tryd.func15 (by kernel_rfl) rfl #[.slice Ao35 y108.length co35, .slice Ao36 y105.length co36] rfl (by (try simp only [List.map_toArray, List.map_cons, List.map_nil]); first | done | rfl | (simp only [List.length_drop, List.length_take]; rfl)) ?_; (with_reducible refine (over_Of.calls k _ _ y108 _ _ y105 t111 t112 _ ?side1 ?side2 ?side3 ?side4 ?side5 A14.out).mono ?_); (case side1 => first | (with_reducible exact HG.out) | exact Glob.below HG.out (by repeat (first | (with_reducible first | exact HB.out | apply below_alloc | apply pw_below_drewN | apply below_drew1 | refine below_set ?_ GE101.out) | exact HB.out)) | exact Glob.drawn HG.out (by repeat (first | exact Drawn0.refl _ | apply Drawn0.step))); (case side2 => repeat (first | exact (Kd.R_reads' HO110.out).2.2 | (with_reducible refine Kd.C_alloc ?_ _) | (with_reducible refine Kd.C_drewN ?_ _) | (with_reducible refine Kd.C_drew ?_))); (case side3 => exact (Kd.R_reads' HO110.out).2.1); (case side4 => repeat (first | exact (Kd.R_reads' HO107.out).2.2 | (with_reducible refine Kd.C_alloc ?_ _) | (with_reducible refine Kd.C_drewN ?_ _) | (with_reducible refine Kd.C_drew ?_))); (case side5 => exact (Kd.R_reads' HO107.out).2.1); rintro e w37 ⟨v113, rfl, ho0, hb⟩; refine ⟨_, rfl, ?_⟩; have n0_ := Aside0.mk (Kd.R_elder' (by (with_reducible repeat (first | apply Kd.R_alloc | apply Kd.R_drewN | apply Kd.R_drew)); exact HO107.out) (Kd.R_base ho0) hb); have n1_ := Aside0.mk (Kd.R_elder' (by (with_reducible repeat (first | apply Kd.R_alloc | apply Kd.R_drewN | apply Kd.R_drew)); exact HO110.out) (Kd.R_base ho0) hb); have n2_ := Aside0.mk (Kd.R_lower (Kd.R_new' (Kd.R_new' ho0 (Kd.R_lt (by (with_reducible repeat (first | apply Kd.R_alloc | apply Kd.R_drewN | apply Kd.R_drew)); exact HO107.out))) (Kd.R_lt (by (with_reducible repeat (first | apply Kd.R_alloc | apply Kd.R_drewN | apply Kd.R_drew)); exact HO110.out))) (below_size (by repeat (first | (with_reducible first | exact HB.out | apply below_alloc | apply pw_below_drewN | apply below_drew1 | refine below_set ?_ GE101.out) | exact HB.out)))); have n3_ := Aside0.mk (blk_below (g := gb101) (o := .cells #[.int .u8 a2_0, .int .u8 a2_1] 22 (0, 0)) (by (with_reducible repeat (first | refine blk_drewN ?_ _ | refine blk_drew ?_ | refine blk_alloc ?_ _)); exact BK101.out) hb); have n4_ := Aside0.mk (below_step (by repeat (first | (with_reducible first | exact HB.out | apply below_alloc | apply pw_below_drewN | apply below_drew1 | refine below_set ?_ GE101.out) | exact HB.out)) hb); clear HO107; clear HO110; clear BK101; clear HB; have HO107 := n0_; have HO110 := n1_; have HO114 := n2_; have BK101 := n3_; have HB := n4_; clear n0_ n1_ n2_ n3_ n4_; (try clear hb); (try clear hb2); (try clear hk); (try clear hi); (try clear ho0)) | ((with_reducible refine gate_callee (f := 16) rfl ?_); refine goesL_ (some 70) rfl rfl Tryd.func16 (by kernel_rfl) rfl #[.slice Ao36 y105.length co36, .slice Ao35 y108.length co35] rfl (by (try simp only [List.map_toArray, List.map_cons, List.map_nil]); first | done | rfl | (simp only [List.length_drop, List.length_take]; rfl)) ?_; (with_reducible refine (under_Of.calls k _ _ y105 _ _ y108 t115 t116 _ ?side1 ?side2 ?side3 ?side4 ?side5 A15.out).mono ?_); (case side1 => first | (with_reducible exact HG.out) | exact Glob.below HG.out (by repeat (first | (with_reducible first | exact HB.out | apply below_alloc | apply pw_below_drewN | apply below_drew1 | refine below_set ?_ GE101.out) | exact HB.out)) | exact Glob.drawn HG.out (by repeat (first | exact Drawn0.refl _ | apply Drawn0.step))); (case side2 => repeat (first | exact (Kd.R_reads' HO107.out).2.2 | (with_reducible refine Kd.C_alloc ?_ _) | (with_reducible refine Kd.C_drewN ?_ _) | (with_reducible refine Kd.C_drew ?_))); (case side3 => exact (Kd.R_reads' HO107.out).2.1); (case side4 => repeat (first | exact (Kd.R_reads' HO110.out).2.2 | (with_reducible refine Kd.C_alloc ?_ _) | (with_reducible refine Kd.C_drewN ?_ _) | (with_reducible refine Kd.C_drew ?_))); (case side5 => exact (Kd.R_reads' HO110.out).2.1); rintro e w38 ⟨v117, rfl, ho0, hb⟩; refine ⟨_, rfl, ?_⟩; have n0_ := Aside0.mk (Kd.R_elder' (by (with_reducible repeat (first | apply Kd.R_alloc | apply Kd.R_drewN | apply Kd.R_drew)); exact HO107.out) (Kd.R_base ho0) hb); have n1_ := Aside0.mk (Kd.R_elder' (by (with_reducible repeat (first | apply Kd.R_alloc | apply Kd.R_drewN | apply Kd.R_drew)); exact HO110.out) (Kd.R_base ho0) hb); have n2_ := Aside0.mk (Kd.R_elder' (by (with_reducible repeat (first | apply Kd.R_alloc | apply Kd.R_drewN | apply Kd.R_drew)); exact HO114.out) (Kd.R_base ho0) hb); have n3_ := Aside0.mk (Kd.R_lower (Kd.R_new' (Kd.R_new' (Kd.R_new' ho0 (Kd.R_lt (by (with_reducible repeat (first | apply Kd.R_alloc | apply Kd.R_drewN | apply Kd.R_drew)); exact HO107.out))) (Kd.R_lt (by (with_reducible repeat (first | apply Kd.R_alloc | apply Kd.R_drewN | apply Kd.R_drew)); exact HO110.out))) (Kd.R_lt (by (with_reducible repeat (first | apply Kd.R_alloc | apply Kd.R_drewN | apply Kd.R_drew)); exact HO114.out))) (below_size (by repeat (first | (with_reducible first | exact HB.out | apply below_alloc | apply pw_below_drewN | apply below_drew1 | refine below_set ?_ GE101.out) | exact HB.out)))); have n4_ := Aside0.mk (blk_below (g := gb101) (o := .cells #[.int .u8 a2_0, .int .u8 a2_1] 22 (0, 0)) (by (with_reducible repeat (first | refine blk_drewN ?_ _ | refine blk_drew ?_ | refine blk_alloc ?_ _)); exact BK101.out) hb); have n5_ := Aside0.mk (below_step (by repeat (first | (with_reducible first | exact HB.out | apply below_alloc | apply pw_below_drewN | apply below_drew1 | refine below_set ?_ GE101.out) | exact HB.out)) hb); clear HO107; clear HO110; clear HO114; clear BK101; clear HB; have HO107 := n0_; have HO110 := n1_; have HO114 := n2_; have HO118 := n3_; have BK101 := n4_; have HB := n5_; clear n0_ n1_ n2_ n3_ n4_ n5_; (try clear hb); (try clear hb2); (try clear hk); (try clear hi); (try clear ho0)) | ((with_reducible refine gate_callee (f := 17) rfl ?_); refine goesL_ (some 75) rfl rfl Tryd.func17 (by kernel_rfl) rfl #[.string t103] rfl (by (try simp only [List.map_toArray, List.map_cons, List.map_nil]); first | done | rfl | (simp only [List.length_drop, List.length_take]; rfl)) ?_; (with_reducible refine (points_Count.calls t103 t119 _ ?side1 A16.out).mono ?_); (case side1 => first | (with_reducible exact HG.out) | exact Glob.below HG.out (by repeat (first | (with_reducible first | exact HB.out | apply below_alloc | apply pw_below_drewN | apply below_drew1 | refine below_set ?_ GE101.out) | exact HB.out)) | exact Glob.drawn HG.out (by repeat (first | exact Drawn0.refl _ | apply Drawn0.step))); rintro e w39 ⟨rfl, hb⟩; refine ⟨_, rfl, ?_⟩; have n0_ := Aside0.mk (Kd.R_below (by (with_reducible repeat (first | apply Kd.R_alloc | apply Kd.R_drewN | apply Kd.R_drew)); exact HO107.out) hb); have n1_ := Aside0.mk (Kd.R_below (by (with_reducible repeat (first | apply Kd.R_alloc | apply Kd.R_drewN | apply Kd.R_drew)); exact HO110.out) hb); have n2_ := Aside0.mk (Kd.R_below (by (with_reducible repeat (first | apply Kd.R_alloc | apply Kd.R_drewN | apply Kd.R_drew)); exact HO114.out) hb); have n3_ := Aside0.mk (Kd.R_below (by (with_reducible repeat (first | apply Kd.R_alloc | apply Kd.R_drewN | apply Kd.R_drew)); exact HO118.out) hb); have n4_ := Aside0.mk (blk_below (g := gb101) (o := .cells #[.int .u8 a2_0, .int .u8 a2_1] 22 (0, 0)) (by (with_reducible repeat (first | refine blk_drewN ?_ _ | refine blk_drew ?_ | refine blk_alloc ?_ _)); exact BK101.out) hb); have n5_ := Aside0.mk (below_step (by repeat (first | (with_reducible first | exact HB.out | apply below_alloc | apply pw_below_drewN | apply below_drew1 | refine below_set ?_ GE101.out) | exact HB.out)) hb); clear HO107; clear HO110; clear HO114; clear HO118; clear BK101; clear HB; have HO107 := n0_; have HO110 := n1_; have HO114 := n2_; have HO118 := n3_; have BK101 := n4_; have HB := n5_; clear n0_ n1_ n2_ n3_ n4_ n5_; (try clear hb); (try clear hb2); (try clear hk); (try clear hi); (try clear A16)) | ((with_reducible refine gate_dst (N := 84) rfl ?_); refine Kd.R_lit k26 _ 26 ?hg (N := 84) ?hd (xs := ([(⟨1, wrap64 ((Int.tmod (wrap64 (a2_1)) (wrap64 ((wrap64 (Int.tmod a2_0 64)) + 1))) + t119), (⟨#[]⟩ : ByteArray)⟩ : S26), (⟨2, 0, t104⟩ : S26), (⟨1, wrap64 ((wrap64 (Int.tmod a2_0 64)) - (Int.tmod (wrap64 (a2_1)) (wrap64 ((wrap64 (Int.tmod a2_0 64)) + 1)))), (⟨#[]⟩ : ByteArray)⟩ : S26)] : List (S26))) (inner := [.int .i64 1, .int .i64 (wrap64 ((Int.tmod (wrap64 (a2_1)) (wrap64 ((wrap64 (Int.tmod a2_0 64)) + 1))) + t119)), .string (⟨#[]⟩ : ByteArray), .int .i64 2, .int .i64 0, .string t104, .int .i64 1, .int .i64 (wrap64 ((wrap64 (Int.tmod a2_0 64)) - (Int.tmod (wrap64 (a2_1)) (wrap64 ((wrap64 (Int.tmod a2_0 64)) + 1))))), .string (⟨#[]⟩ : ByteArray)]) (ok := fun _ => True) (okp := fun _ => True) ?hr ?hp (fun _ hk => hk) trivial (Below.refl _ _) (Nat.le_refl _) (by simp) ?_; (case hd => rfl); (case hg => rfl); (case hr => first | (go_simp; done) | (go_simp; rfl)); (case hp => exact (Reps.c3 (show Kd.M k26 _ _ _ (⟨1, wrap64 ((Int.tmod (wrap64 (a2_1)) (wrap64 ((wrap64 (Int.tmod a2_0 64)) + 1))) + t119), (⟨#[]⟩ : ByteArray)⟩ : S26) [.int .i64 1, .int .i64 (wrap64 ((Int.tmod (wrap64 (a2_1)) (wrap64 ((wrap64 (Int.tmod a2_0 64)) + 1))) + t119)), .string (⟨#[]⟩ : ByteArray)] from (k26_mkM _ _ _ (⟨1, wrap64 ((Int.tmod (wrap64 (a2_1)) (wrap64 ((wrap64 (Int.tmod a2_0 64)) + 1))) + t119), (⟨#[]⟩ : ByteArray)⟩ : S26) )) (Reps.c3 (show Kd.M k26 _ _ _ (⟨2, 0, t104⟩ : S26) [.int .i64 2, .int .i64 0, .string t104] from (k26_mkM _ _ _ (⟨2, 0, t104⟩ : S26) )) (Reps.c3 (show Kd.M k26 _ _ _ (⟨1, wrap64 ((wrap64 (Int.tmod a2_0 64)) - (Int.tmod (wrap64 (a2_1)) (wrap64 ((wrap64 (Int.tmod a2_0 64)) + 1)))), (⟨#[]⟩ : ByteArray)⟩ : S26) [.int .i64 1, .int .i64 (wrap64 ((wrap64 (Int.tmod a2_0 64)) - (Int.tmod (wrap64 (a2_1)) (wrap64 ((wrap64 (Int.tmod a2_0 64)) + 1))))), .string (⟨#[]⟩ : ByteArray)] from (k26_mkM _ _ _ (⟨1, wrap64 ((wrap64 (Int.tmod a2_0 64)) - (Int.tmod (wrap64 (a2_1)) (wrap64 ((wrap64 (Int.tmod a2_0 64)) + 1)))), (⟨#[]⟩ : ByteArray)⟩ : S26) )) (Reps.none _ _))))); intro v121 w40 ho41 hb hg_ hnew_; clear hg_ hnew_; (first | rw [← Ny120.out] at ho41 | (simp only [Int.reduceToNat] at ho41; rw [← Ny120.out] at ho41)); have n0_ := Aside0.mk (Kd.R_elder' (by (with_reducible repeat (first | apply Kd.R_alloc | apply Kd.R_drewN | apply Kd.R_drew)); exact HO107.out) (Kd.R_base ho41) hb); have n1_ := Aside0.mk (Kd.R_elder' (by (with_reducible repeat (first | apply Kd.R_alloc | apply Kd.R_drewN | apply Kd.R_drew)); exact HO110.out) (Kd.R_base ho41) hb); have n2_ := Aside0.mk (Kd.R_elder' (by (with_reducible repeat (first | apply Kd.R_alloc | apply Kd.R_drewN | apply Kd.R_drew)); exact HO114.out) (Kd.R_base ho41) hb); have n3_ := Aside0.mk (Kd.R_elder' (by (with_reducible repeat (first | apply Kd.R_alloc | apply Kd.R_drewN | apply Kd.R_drew)); exact HO118.out) (Kd.R_base ho41) hb); have n4_ := Aside0.mk (Kd.R_lower (Kd.R_new' (Kd.R_new' (Kd.R_new' (Kd.R_new' ho41 (Kd.R_lt (by (with_reducible repeat (first | apply Kd.R_alloc | apply Kd.R_drewN | apply Kd.R_drew)); exact HO107.out))) (Kd.R_lt (by (with_reducible repeat (first | apply Kd.R_alloc | apply Kd.R_drewN | apply Kd.R_drew)); exact HO110.out))) (Kd.R_lt (by (with_reducible repeat (first | apply Kd.R_alloc | apply Kd.R_drewN | apply Kd.R_drew)); exact HO114.out))) (Kd.R_lt (by (with_reducible repeat (first | apply Kd.R_alloc | apply Kd.R_drewN | apply Kd.R_drew)); exact HO118.out))) (below_size (by repeat (first | (with_reducible first | exact HB.out | apply below_alloc | apply pw_below_drewN | apply below_drew1 | refine below_set ?_ GE101.out) | exact HB.out)))); have n5_ := Aside0.mk (blk_below (g := gb101) (o := .cells #[.int .u8 a2_0, .int .u8 a2_1] 22 (0, 0)) (by (with_reducible repeat (first | refine blk_drewN ?_ _ | refine blk_drew ?_ | refine blk_alloc ?_ _)); exact BK101.out) hb); have n6_ := Aside0.mk (below_step (by repeat (first | (with_reducible first | exact HB.out | apply below_alloc | apply pw_below_drewN | apply below_drew1 | refine below_set ?_ GE101.out) | exact HB.out)) hb); clear HO107; clear HO110; clear HO114; clear HO118; clear BK101; clear HB; have HO107 := n0_; have HO110 := n1_; have HO114 := n2_; have HO118 := n3_; have HO122 := n4_; have BK101 := n5_; have HB := n6_; clear n0_ n1_ n2_ n3_ n4_ n5_ n6_; clear hb ho41) | ((with_reducible refine gate_callee (f := 17) rfl ?_); refine goesL_ (some 90) rfl rfl Tryd.func17 (by kernel_rfl) rfl #[.string t104] rfl (by (try simp only [List.map_toArray, List.map_cons, List.map_nil]); first | done | rfl | (simp only [List.length_drop, List.length_take]; rfl)) ?_; (with_reducible refine (points_Count.calls t104 t123 _ ?side1 A17.out).mono ?_); (case side1 => first | (with_reducible exact HG.out) | exact Glob.below HG.out (by repeat (first | (with_reducible first | exact HB.out | apply below_alloc | apply pw_below_drewN | apply below_drew1 | refine below_set ?_ GE101.out) | exact HB.out)) | exact Glob.drawn HG.out (by repeat (first | exact Drawn0.refl _ | apply Drawn0.step))); rintro e w42 ⟨rfl, hb⟩; refine ⟨_, rfl, ?_⟩; have n0_ := Aside0.mk (Kd.R_below (by (with_reducible repeat (first | apply Kd.R_alloc | apply Kd.R_drewN | apply Kd.R_drew)); exact HO107.out) hb); have n1_ := Aside0.mk (Kd.R_below (by (with_reducible repeat (first | apply Kd.R_alloc | apply Kd.R_drewN | apply Kd.R_drew)); exact HO110.out) hb); have n2_ := Aside0.mk (Kd.R_below (by (with_reducible repeat (first | apply Kd.R_alloc | apply Kd.R_drewN | apply Kd.R_drew)); exact HO114.out) hb); have n3_ := Aside0.mk (Kd.R_below (by (with_reducible repeat (first | apply Kd.R_alloc | apply Kd.R_drewN | apply Kd.R_drew)); exact HO118.out) hb); have n4_ := Aside0.mk (Kd.R_below (by (with_reducible repeat (first | apply Kd.R_alloc | apply Kd.R_drewN | apply Kd.R_drew)); exact HO122.out) hb); have n5_ := Aside0.mk (blk_below (g := gb101) (o := .cells #[.int .u8 a2_0, .int .u8 a2_1] 22 (0, 0)) (by (with_reducible repeat (first | refine blk_drewN ?_ _ | refine blk_drew ?_ | refine blk_alloc ?_ _)); exact BK101.out) hb); have n6_ := Aside0.mk (below_step (by repeat (first | (with_reducible first | exact HB.out | apply below_alloc | apply pw_below_drewN | apply below_drew1 | refine below_set ?_ GE101.out) | exact HB.out)) hb); clear HO107; clear HO110; clear HO114; clear HO118; clear HO122; clear BK101; clear HB; have HO107 := n0_; have HO110 := n1_; have HO114 := n2_; have HO118 := n3_; have HO122 := n4_; have BK101 := n5_; have HB := n6_; clear n0_ n1_ n2_ n3_ n4_ n5_ n6_; (try clear hb); (try clear hb2); (try clear hk); (try clear hi); (try clear A17)) | ((with_reducible refine gate_dst (N := 96) rfl ?_); refine Kd.R_lit k26 _ 26 ?hg (N := 96) ?hd (xs := ([(⟨1, Int.tmod (wrap64 (a2_1)) (wrap64 ((wrap64 (Int.tmod a2_0 64)) + 1)), (⟨#[]⟩ : ByteArray)⟩ : S26), (⟨2, 0, t103⟩ : S26), (⟨1, wrap64 ((wrap64 (t123 + (wrap64 (Int.tmod a2_0 64)))) - (Int.tmod (wrap64 (a2_1)) (wrap64 ((wrap64 (Int.tmod a2_0 64)) + 1)))), (⟨#[]⟩ : ByteArray)⟩ : S26)] : List (S26))) (inner := [.int .i64 1, .int .i64 (Int.tmod (wrap64 (a2_1)) (wrap64 ((wrap64 (Int.tmod a2_0 64)) + 1))), .string (⟨#[]⟩ : ByteArray), .int .i64 2, .int .i64 0, .string t103, .int .i64 1, .int .i64 (wrap64 ((wrap64 (t123 + (wrap64 (Int.tmod a2_0 64)))) - (Int.tmod (wrap64 (a2_1)) (wrap64 ((wrap64 (Int.tmod a2_0 64)) + 1))))), .string (⟨#[]⟩ : ByteArray)]) (ok := fun _ => True) (okp := fun _ => True) ?hr ?hp (fun _ hk => hk) trivial (Below.refl _ _) (Nat.le_refl _) (by simp) ?_; (case hd => rfl); (case hg => rfl); (case hr => first | (go_simp; done) | (go_simp; rfl)); (case hp => exact (Reps.c3 (show Kd.M k26 _ _ _ (⟨1, Int.tmod (wrap64 (a2_1)) (wrap64 ((wrap64 (Int.tmod a2_0 64)) + 1)), (⟨#[]⟩ : ByteArray)⟩ : S26) [.int .i64 1, .int .i64 (Int.tmod (wrap64 (a2_1)) (wrap64 ((wrap64 (Int.tmod a2_0 64)) + 1))), .string (⟨#[]⟩ : ByteArray)] from (k26_mkM _ _ _ (⟨1, Int.tmod (wrap64 (a2_1)) (wrap64 ((wrap64 (Int.tmod a2_0 64)) + 1)), (⟨#[]⟩ : ByteArray)⟩ : S26) )) (Reps.c3 (show Kd.M k26 _ _ _ (⟨2, 0, t103⟩ : S26) [.int .i64 2, .int .i64 0, .string t103] from (k26_mkM _ _ _ (⟨2, 0, t103⟩ : S26) )) (Reps.c3 (show Kd.M k26 _ _ _ (⟨1, wrap64 ((wrap64 (t123 + (wrap64 (Int.tmod a2_0 64)))) - (Int.tmod (wrap64 (a2_1)) (wrap64 ((wrap64 (Int.tmod a2_0 64)) + 1)))), (⟨#[]⟩ : ByteArray)⟩ : S26) [.int .i64 1, .int .i64 (wrap64 ((wrap64 (t123 + (wrap64 (Int.tmod a2_0 64)))) - (Int.tmod (wrap64 (a2_1)) (wrap64 ((wrap64 (Int.tmod a2_0 64)) + 1))))), .string (⟨#[]⟩ : ByteArray)] from (k26_mkM _ _ _ (⟨1, wrap64 ((wrap64 (t123 + (wrap64 (Int.tmod a2_0 64)))) - (Int.tmod (wrap64 (a2_1)) (wrap64 ((wrap64 (Int.tmod a2_0 64)) + 1)))), (⟨#[]⟩ : ByteArray)⟩ : S26) )) (Reps.none _ _))))); intro v125 w43 ho44 hb hg_ hnew_; clear hg_ hnew_; (first | rw [← Ny124.out] at ho44 | (simp only [Int.reduceToNat] at ho44; rw [← Ny124.out] at ho44)); have n0_ := Aside0.mk (Kd.R_elder' (by (with_reducible repeat (first | apply Kd.R_alloc | apply Kd.R_drewN | apply Kd.R_drew)); exact HO107.out) (Kd.R_base ho44) hb); have n1_ := Aside0.mk (Kd.R_elder' (by (with_reducible repeat (first | apply Kd.R_alloc | apply Kd.R_drewN | apply Kd.R_drew)); exact HO110.out) (Kd.R_base ho44) hb); have n2_ := Aside0.mk (Kd.R_elder' (by (with_reducible repeat (first | apply Kd.R_alloc | apply Kd.R_drewN | apply Kd.R_drew)); exact HO114.out) (Kd.R_base ho44) hb); have n3_ := Aside0.mk (Kd.R_elder' (by (with_reducible repeat (first | apply Kd.R_alloc | apply Kd.R_drewN | apply Kd.R_drew)); exact HO118.out) (Kd.R_base ho44) hb); have n4_ := Aside0.mk (Kd.R_elder' (by (with_reducible repeat (first | apply Kd.R_alloc | apply Kd.R_drewN | apply Kd.R_drew)); exact HO122.out) (Kd.R_base ho44) hb); have n5_ := Aside0.mk (Kd.R_lower (Kd.R_new' (Kd.R_new' (Kd.R_new' (Kd.R_new' (Kd.R_new' ho44 (Kd.R_lt (by (with_reducible repeat (first | apply Kd.R_alloc | apply Kd.R_drewN | apply Kd.R_drew)); exact HO107.out))) (Kd.R_lt (by (with_reducible repeat (first | apply Kd.R_alloc | apply Kd.R_drewN | apply Kd.R_drew)); exact HO110.out))) (Kd.R_lt (by (with_reducible repeat (first | apply Kd.R_alloc | apply Kd.R_drewN | apply Kd.R_drew)); exact HO114.out))) (Kd.R_lt (by (with_reducible repeat (first | apply Kd.R_alloc | apply Kd.R_drewN | apply Kd.R_drew)); exact HO118.out))) (Kd.R_lt (by (with_reducible repeat (first | apply Kd.R_alloc | apply Kd.R_drewN | apply Kd.R_drew)); exact HO122.out))) (below_size (by repeat (first | (with_reducible first | exact HB.out | apply below_alloc | apply pw_below_drewN | apply below_drew1 | refine below_set ?_ GE101.out) | exact HB.out)))); have n6_ := Aside0.mk (blk_below (g := gb101) (o := .cells #[.int .u8 a2_0, .int .u8 a2_1] 22 (0, 0)) (by (with_reducible repeat (first | refine blk_drewN ?_ _ | refine blk_drew ?_ | refine blk_alloc ?_ _)); exact BK101.out) hb); have n7_ := Aside0.mk (below_step (by repeat (first | (with_reducible first | exact HB.out | apply below_alloc | apply pw_below_drewN | apply below_drew1 | refine below_set ?_ GE101.out) | exact HB.out)) hb); clear HO107; clear HO110; clear HO114; clear HO118; clear HO122; clear BK101; clear HB; have HO107 := n0_; have HO110 := n1_; have HO114 := n2_; have HO118 := n3_; have HO122 := n4_; have HO126 := n5_; have BK101 := n6_; have HB := n7_; clear n0_ n1_ n2_ n3_ n4_ n5_ n6_ n7_; clear hb ho44; obtain ⟨Ao45, co45, eo45⟩ := Kd.R_slice HO122.out; subst eo45) | (go_at_call 19; (with_reducible refine (normal_Of.calls k _ _ y120 t127 _ ?side1 ?side2 A21.out).mono ?_); (case side1 => repeat (first | exact (Kd.R_reads' HO122.out).2.2 | (with_reducible refine Kd.C_alloc ?_ _) | (with_reducible refine Kd.C_drewN ?_ _) | (with_reducible refine Kd.C_drew ?_))); (case side2 => exact (Kd.R_reads' HO122.out).2.1); rintro e w46 ⟨v128, rfl, ho0, hb⟩; have n0_ := Aside0.mk (Kd.R_elder' (by (with_reducible repeat (first | apply Kd.R_alloc | apply Kd.R_drewN | apply Kd.R_drew)); exact HO107.out) (Kd.R_base ho0) hb); have n1_ := Aside0.mk (Kd.R_elder' (by (with_reducible repeat (first | apply Kd.R_alloc | apply Kd.R_drewN | apply Kd.R_drew)); exact HO110.out) (Kd.R_base ho0) hb); have n2_ := Aside0.mk (Kd.R_elder' (by (with_reducible repeat (first | apply Kd.R_alloc | apply Kd.R_drewN | apply Kd.R_drew)); exact HO114.out) (Kd.R_base ho0) hb); have n3_ := Aside0.mk (Kd.R_elder' (by (with_reducible repeat (first | apply Kd.R_alloc | apply Kd.R_drewN | apply Kd.R_drew)); exact HO118.out) (Kd.R_base ho0) hb); have n4_ := Aside0.mk (Kd.R_elder' (by (with_reducible repeat (first | apply Kd.R_alloc | apply Kd.R_drewN | apply Kd.R_drew)); exact HO122.out) (Kd.R_base ho0) hb); have n5_ := Aside0.mk (Kd.R_elder' (by (with_reducible repeat (first | apply Kd.R_alloc | apply Kd.R_drewN | apply Kd.R_drew)); exact HO126.out) (Kd.R_base ho0) hb); have n6_ := Aside0.mk (Kd.R_lower (Kd.R_new' (Kd.R_new' (Kd.R_new' (Kd.R_new' (Kd.R_new' (Kd.R_new' ho0 (Kd.R_lt (by (with_reducible repeat (first | apply Kd.R_alloc | apply Kd.R_drewN | apply Kd.R_drew)); exact HO107.out))) (Kd.R_lt (by (with_reducible repeat (first | apply Kd.R_alloc | apply Kd.R_drewN | apply Kd.R_drew)); exact HO110.out))) (Kd.R_lt (by (with_reducible repeat (first | apply Kd.R_alloc | apply Kd.R_drewN | apply Kd.R_drew)); exact HO114.out))) (Kd.R_lt (by (with_reducible repeat (first | apply Kd.R_alloc | apply Kd.R_drewN | apply Kd.R_drew)); exact HO118.out))) (Kd.R_lt (by (with_reducible repeat (first | apply Kd.R_alloc | apply Kd.R_drewN | apply Kd.R_drew)); exact HO122.out))) (Kd.R_lt (by (with_reducible repeat (first | apply Kd.R_alloc | apply Kd.R_drewN | apply Kd.R_drew)); exact HO126.out))) (below_size (by repeat (first | (with_reducible first | exact HB.out | apply below_alloc | apply pw_below_drewN | apply below_drew1 | refine below_set ?_ GE101.out) | exact HB.out)))); have n7_ := Aside0.mk (blk_below (g := gb101) (o := .cells #[.int .u8 a2_0, .int .u8 a2_1] 22 (0, 0)) (by (with_reducible repeat (first | refine blk_drewN ?_ _ | refine blk_drew ?_ | refine blk_alloc ?_ _)); exact BK101.out) hb); have n8_ := Aside0.mk (below_step (by repeat (first | (with_reducible first | exact HB.out | apply below_alloc | apply pw_below_drewN | apply below_drew1 | refine below_set ?_ GE101.out) | exact HB.out)) hb); clear HO107; clear HO110; clear HO114; clear HO118; clear HO122; clear HO126; clear BK101; clear HB; have HO107 := n0_; have HO110 := n1_; have HO114 := n2_; have HO118 := n3_; have HO122 := n4_; have HO126 := n5_; have HO129 := n6_; have BK101 := n7_; have HB := n8_; clear n0_ n1_ n2_ n3_ n4_ n5_ n6_ n7_ n8_; (try clear hb); (try clear hb2); (try clear hk); (try clear hi); (try clear ho0); obtain ⟨Ao47, co47, eo47⟩ := Kd.R_slice HO114.out; subst eo47; obtain ⟨Ao48, co48, eo48⟩ := Kd.R_slice HO129.out; subst eo48; (try clear A21)) | (go_at_call 18; (with_reducible refine (epitomeref04_Same.calls k _ _ t111 _ _ t127 true _ ?side1 ?side2 ?side3 ?side4 A22.out).mono ?_); (case side1 => repeat (first | exact (Kd.R_reads' HO114.out).2.2 | (with_reducible refine Kd.C_alloc ?_ _) | (with_reducible refine Kd.C_drewN ?_ _) | (with_reducible refine Kd.C_drew ?_))); (case side2 => exact (Kd.R_reads' HO114.out).2.1); (case side3 => repeat (first | exact (Kd.R_reads' HO129.out).2.2 | (with_reducible refine Kd.C_alloc ?_ _) | (with_reducible refine Kd.C_drewN ?_ _) | (with_reducible refine Kd.C_drew ?_))); (case side4 => exact (Kd.R_reads' HO129.out).2.1); rintro e w' ⟨rfl, ⟨nd, rfl⟩⟩; obtain ⟨Ao49, co49, eo49⟩ := Kd.R_slice HO126.out; subst eo49; (try clear A22)) | (go_at_call 19; (with_reducible refine (normal_Of.calls k _ _ y124 t131 _ ?side1 ?side2 A24.out).mono ?_); (case side1 => repeat (first | exact (Kd.R_reads' HO126.out).2.2 | (with_reducible refine Kd.C_alloc ?_ _) | (with_reducible refine Kd.C_drewN ?_ _) | (with_reducible refine Kd.C_drew ?_))); (case side2 => exact (Kd.R_reads' HO126.out).2.1); rintro e w50 ⟨v132, rfl, ho0, hb⟩; have n0_ := Aside0.mk (Kd.R_elder' (by (with_reducible repeat (first | apply Kd.R_alloc | apply Kd.R_drewN | apply Kd.R_drew)); exact HO107.out) (Kd.R_base ho0) hb); have n1_ := Aside0.mk (Kd.R_elder' (by (with_reducible repeat (first | apply Kd.R_alloc | apply Kd.R_drewN | apply Kd.R_drew)); exact HO110.out) (Kd.R_base ho0) hb); have n2_ := Aside0.mk (Kd.R_elder' (by (with_reducible repeat (first | apply Kd.R_alloc | apply Kd.R_drewN | apply Kd.R_drew)); exact HO114.out) (Kd.R_base ho0) hb); have n3_ := Aside0.mk (Kd.R_elder' (by (with_reducible repeat (first | apply Kd.R_alloc | apply Kd.R_drewN | apply Kd.R_drew)); exact HO118.out) (Kd.R_base ho0) hb); have n4_ := Aside0.mk (Kd.R_elder' (by (with_reducible repeat (first | apply Kd.R_alloc | apply Kd.R_drewN | apply Kd.R_drew)); exact HO122.out) (Kd.R_base ho0) hb); have n5_ := Aside0.mk (Kd.R_elder' (by (with_reducible repeat (first | apply Kd.R_alloc | apply Kd.R_drewN | apply Kd.R_drew)); exact HO126.out) (Kd.R_base ho0) hb); have n6_ := Aside0.mk (Kd.R_elder' (by (with_reducible repeat (first | apply Kd.R_alloc | apply Kd.R_drewN | apply Kd.R_drew)); exact HO129.out) (Kd.R_base ho0) hb); have n7_ := Aside0.mk (Kd.R_lower (Kd.R_new' (Kd.R_new' (Kd.R_new' (Kd.R_new' (Kd.R_new' (Kd.R_new' (Kd.R_new' ho0 (Kd.R_lt (by (with_reducible repeat (first | apply Kd.R_alloc | apply Kd.R_drewN | apply Kd.R_drew)); exact HO107.out))) (Kd.R_lt (by (with_reducible repeat (first | apply Kd.R_alloc | apply Kd.R_drewN | apply Kd.R_drew)); exact HO110.out))) (Kd.R_lt (by (with_reducible repeat (first | apply Kd.R_alloc | apply Kd.R_drewN | apply Kd.R_drew)); exact HO114.out))) (Kd.R_lt (by (with_reducible repeat (first | apply Kd.R_alloc | apply Kd.R_drewN | apply Kd.R_drew)); exact HO118.out))) (Kd.R_lt (by (with_reducible repeat (first | apply Kd.R_alloc | apply Kd.R_drewN | apply Kd.R_drew)); exact HO122.out))) (Kd.R_lt (by (with_reducible repeat (first | apply Kd.R_alloc | apply Kd.R_drewN | apply Kd.R_drew)); exact HO126.out))) (Kd.R_lt (by (with_reducible repeat (first | apply Kd.R_alloc | apply Kd.R_drewN | apply Kd.R_drew)); exact HO129.out))) (below_size (by repeat (first | (with_reducible first | exact HB.out | apply below_alloc | apply pw_below_drewN | apply below_drew1 | refine below_set ?_ GE101.out) | exact HB.out)))); have n8_ := Aside0.mk (blk_below (g := gb101) (o := .cells #[.int .u8 a2_0, .int .u8 a2_1] 22 (0, 0)) (by (with_reducible repeat (first | refine blk_drewN ?_ _ | refine blk_drew ?_ | refine blk_alloc ?_ _)); exact BK101.out) hb); have n9_ := Aside0.mk (below_step (by repeat (first | (with_reducible first | exact HB.out | apply below_alloc | apply pw_below_drewN | apply below_drew1 | refine below_set ?_ GE101.out) | exact HB.out)) hb); clear HO107; clear HO110; clear HO114; clear HO118; clear HO122; clear HO126; clear HO129; clear BK101; clear HB; have HO107 := n0_; have HO110 := n1_; have HO114 := n2_; have HO118 := n3_; have HO122 := n4_; have HO126 := n5_; have HO129 := n6_; have HO133 := n7_; have BK101 := n8_; have HB := n9_; clear n0_ n1_ n2_ n3_ n4_ n5_ n6_ n7_ n8_ n9_; (try clear hb); (try clear hb2); (try clear hk); (try clear hi); (try clear ho0); obtain ⟨Ao51, co51, eo51⟩ := Kd.R_slice HO118.out; subst eo51; obtain ⟨Ao52, co52, eo52⟩ := Kd.R_slice HO133.out; subst eo52; (try clear A24)) | (go_at_call 18; (with_reducible refine (epitomeref04_Same.calls k _ _ t115 _ _ t131 t134 _ ?side1 ?side2 ?side3 ?side4 A25.out).mono ?_); (case side1 => repeat (first | exact (Kd.R_reads' HO118.out).2.2 | (with_reducible refine Kd.C_alloc ?_ _) | (with_reducible refine Kd.C_drewN ?_ _) | (with_reducible refine Kd.C_drew ?_))); (case side2 => exact (Kd.R_reads' HO118.out).2.1); (case side3 => repeat (first | exact (Kd.R_reads' HO133.out).2.2 | (with_reducible refine Kd.C_alloc ?_ _) | (with_reducible refine Kd.C_drewN ?_ _) | (with_reducible refine Kd.C_drew ?_))); (case side4 => exact (Kd.R_reads' HO133.out).2.1); rintro e w' ⟨rfl, ⟨nd, rfl⟩⟩; (try clear A25)))
                    go_ret
                    exact ⟨by first | rfl | (simp [errW_none, errW_some] <;> rfl) | (simp only [← hji6, ← hji10]; first | rfl | (simp [errW_none, errW_some] <;> rfl)) | (simp [*, errW_none, errW_some] <;> rfl), by repeat (first | (with_reducible first | exact HB.out | apply below_alloc | apply pw_below_drewN | apply below_drew1 | refine below_set ?_ GE101.out) | exact HB.out)⟩
                  · replace c23 := Bool.eq_false_iff.mpr c23
                    subst c23
                    have H1 : (some false) = some r := by rw [if_neg (show ¬ (false = true) by decide)] at H; exact H
                    clear H
                    have H := H1
                    clear H1
                    exact Bool.noConfusion ((Option.some.inj H).trans hr_.out)
                · rw [if_neg c20] at H
                  have c20b0 : (t116 == 0) = false := beq_eq_false_iff_ne.mpr c20
                  have c20b1 : (t116 != 0) = true := bne_iff_ne.mpr c20
                  exact Bool.noConfusion ((Option.some.inj H).trans hr_.out)
              · rw [if_neg c19] at H
                have c19b0 : (t112 == 0) = false := beq_eq_false_iff_ne.mpr c19
                have c19b1 : (t112 != 0) = true := bne_iff_ne.mpr c19
                exact Bool.noConfusion ((Option.some.inj H).trans hr_.out)
            · replace c18 := Bool.eq_false_iff.mpr c18
              subst c18
              have H1 : (some false) = some r := by rw [if_neg (show ¬ (false = true) by decide)] at H; exact H
              clear H
              have H := H1
              clear H1
              exact Bool.noConfusion ((Option.some.inj H).trans hr_.out)
          · rw [if_neg c12] at H
            exact absurd H (by simp)
        · rw [if_neg c11] at H
          exact absurd H (by simp)
      · rw [if_neg c8] at H
        exact absurd H (by simp)
    · rw [if_neg c7] at H
      exact absurd H (by simp)
end Go.Proofs.YtkefbljogjcodaaDoor.F
end
section
namespace Go.Proofs.YtkefbljogjcodaaDoor.F
open Go.RowKit Go.Proofs.YtkefbljogjcodaaDoorW.PrintWords Go.Proofs.YtkefbljogjcodaaDoorW.PrintLast Go.Proofs.YtkefbljogjcodaaDoorW.PrintMore
attribute [local go_sem] max2_int min2_int max_two min_two max_three min_three max_four min_four cell_setCell_isSome
set_option linter.unusedVariables false
set_option linter.unusedSimpArgs false
mutual
def epitomeref04_Fit.l0 : Nat → List (S26) → Int → List (S26) → Int → Option ((List (S26)))
  | 0, _, _, _, _ => none
  | k + 1, x0, x1, x5, x6 => if x6 < (x0.length : Int) then (epitomeref04_Fit.j1 k x0 x1 x5 x6 (decide (x6 < 12))) else (epitomeref04_Fit.j1 k x0 x1 x5 x6 false)
def epitomeref04_Fit.j1 : Nat → List (S26) → Int → List (S26) → Int → Bool → Option ((List (S26)))
  | 0, _, _, _, _, _ => none
  | k + 1, x0, x1, x5, x6, x16 => if x16 = true then (if 0 ≤ x6 then (if x6 < (x0.length : Int) then (if (wrap64 (1 + (Int.tmod (wrap64 ((Int.tmod ((rd_T26 x0 x6).f0) 3) + 3)) 3))) = 2 then (if 0 ≤ (mn (((rd_T26 x0 x6).f2).size : Int) 6) then (if (mn (((rd_T26 x0 x6).f2).size : Int) 6) ≤ (((rd_T26 x0 x6).f2).size : Int) then ((epitomeref01_Fit.f k (((rd_T26 x0 x6).f2).extract 0 ((mn (((rd_T26 x0 x6).f2).size : Int) 6) : Int).toNat)).bind fun t108 => (if x5.length < 4398046511104 then (epitomeref04_Fit.l0 k x0 x1 (x5 ++ [(⟨wrap64 (1 + (Int.tmod (wrap64 ((Int.tmod ((rd_T26 x0 x6).f0) 3) + 3)) 3)), 0, t108⟩ : S26)]) (wrap64 (x6 + 1))) else (none))) else (none)) else (none)) else (if x5.length < 4398046511104 then (epitomeref04_Fit.l0 k x0 (wrap64 (x1 - (mn (Int.tmod (wrap64 ((Int.tmod ((rd_T26 x0 x6).f1) 7) + 7)) 7) x1))) (x5 ++ [(⟨wrap64 (1 + (Int.tmod (wrap64 ((Int.tmod ((rd_T26 x0 x6).f0) 3) + 3)) 3)), mn (Int.tmod (wrap64 ((Int.tmod ((rd_T26 x0 x6).f1) 7) + 7)) 7) x1, (⟨#[]⟩ : ByteArray)⟩ : S26)]) (wrap64 (x6 + 1))) else (none))) else (none)) else (none)) else (if x1 > 0 then (if x5.length < 4398046511104 then (some (x5 ++ [(⟨1, x1, (⟨#[]⟩ : ByteArray)⟩ : S26)])) else (none)) else (some x5))
end
def epitomeref04_Fit.f (k : Nat) (l0 : List (S26)) (a1 : Int) : Option ((List (S26))) := epitomeref04_Fit.l0 k l0 a1 (([] : List (S26))) 0
theorem epitomeref04_Fit.mono_l : ∀ k, (∀ y0 y1 y2 y3, LeO (epitomeref04_Fit.l0 k y0 y1 y2 y3) (epitomeref04_Fit.l0 (k + 1) y0 y1 y2 y3)) ∧ (∀ y0 y1 y2 y3 y4, LeO (epitomeref04_Fit.j1 k y0 y1 y2 y3 y4) (epitomeref04_Fit.j1 (k + 1) y0 y1 y2 y3 y4))
  | 0 => ⟨fun _ _ _ _ r h => by simp [epitomeref04_Fit.l0] at h, fun _ _ _ _ _ r h => by simp [epitomeref04_Fit.j1] at h⟩
  | k + 1 => by
    obtain ⟨ih0, ih1⟩ := epitomeref04_Fit.mono_l k
    refine ⟨?_, ?_⟩
    · intro y0 y1 y2 y3
      unfold epitomeref04_Fit.l0
      repeat' first
      | (with_reducible exact ih0 _ _ _ _)
      | (with_reducible exact ih1 _ _ _ _ _)
      | (with_reducible exact epitomeref01_Fit.mono _ _)
      | (with_reducible exact LeO.refl _)
      | (with_reducible exact LeO.none _)
      | (with_reducible refine LeO.ite ?_ ?_)
      | (with_reducible refine LeO.bind ?_ (fun _ => ?_))
      | exact ih0 _ _ _ _
      | exact ih1 _ _ _ _ _
      | exact epitomeref01_Fit.mono _ _
      | exact LeO.none _
      | refine LeO.ite ?_ ?_
      | refine LeO.bind ?_ (fun _ => ?_)
    · intro y0 y1 y2 y3 y4
      unfold epitomeref04_Fit.j1
      repeat' first
      | (with_reducible exact ih0 _ _ _ _)
      | (with_reducible exact ih1 _ _ _ _ _)
      | (with_reducible exact epitomeref01_Fit.mono _ _)
      | (with_reducible exact LeO.refl _)
      | (with_reducible exact LeO.none _)
      | (with_reducible refine LeO.ite ?_ ?_)
      | (with_reducible refine LeO.bind ?_ (fun _ => ?_))
      | exact ih0 _ _ _ _
      | exact ih1 _ _ _ _ _
      | exact epitomeref01_Fit.mono _ _
      | exact LeO.none _
      | refine LeO.ite ?_ ?_
      | refine LeO.bind ?_ (fun _ => ?_)
theorem epitomeref04_Fit.mono : ∀ a0 a1 k, LeO (epitomeref04_Fit.f k a0 a1) (epitomeref04_Fit.f (k + 1) a0 a1) := by
  intro a0 a1 k
  obtain ⟨ih0, ih1⟩ := epitomeref04_Fit.mono_l k
  unfold epitomeref04_Fit.f
  repeat' first
      | (with_reducible exact ih0 _ _ _ _)
      | (with_reducible exact ih1 _ _ _ _ _)
      | (with_reducible exact epitomeref01_Fit.mono _ _)
      | (with_reducible exact LeO.refl _)
      | (with_reducible exact LeO.none _)
      | (with_reducible refine LeO.ite ?_ ?_)
      | (with_reducible refine LeO.bind ?_ (fun _ => ?_))
      | exact ih0 _ _ _ _
      | exact ih1 _ _ _ _ _
      | exact epitomeref01_Fit.mono _ _
      | exact LeO.none _
      | refine LeO.ite ?_ ?_
      | refine LeO.bind ?_ (fun _ => ?_)
end Go.Proofs.YtkefbljogjcodaaDoor.F
end
section
namespace Go.Proofs.YtkefbljogjcodaaDoor.F
open Go.RowKit Go.Proofs.YtkefbljogjcodaaDoorW.PrintWords Go.Proofs.YtkefbljogjcodaaDoorW.PrintLast Go.Proofs.YtkefbljogjcodaaDoorW.PrintMore
attribute [local go_sem] max2_int min2_int max_two min_two max_three min_three max_four min_four cell_setCell_isSome
set_option linter.unusedVariables false
set_option linter.unusedSimpArgs false
def apply_To.l0 : Nat → List Int → List Int → List (S26) → Int → Int → Option (ByteArray × Int)
  | 0, _, _, _, _, _ => none
  | k + 1, x8, x9, x29, x30, x31 => if x31 < x30 then (if 0 ≤ x31 then (if x31 < (x29.length : Int) then (if ((rd_T26 x29 x31).f0) = 2 then ((str_runes.f ((rd_T26 x29 x31).f2)).bind fun t110 => (if x9.length + t110.length < 35184372088832 then (if 0 ≤ ((rd_T26 x29 x31).f1) then (if ((rd_T26 x29 x31).f1) ≤ (x8.length : Int) then (apply_To.l0 k (x8.drop (((rd_T26 x29 x31).f1) : Int).toNat) (x9 ++ t110) x29 x30 (wrap64 (x31 + 1))) else (none)) else (none)) else (none))) else (if ((rd_T26 x29 x31).f0) = 1 then (if 0 ≤ ((rd_T26 x29 x31).f1) then (if ((rd_T26 x29 x31).f1) ≤ (x8.length : Int) then ((some (x8.take (((rd_T26 x29 x31).f1) : Int).toNat : List Int)).bind fun y119 => (if x9.length + y119.length < 35184372088832 then (apply_To.l0 k (x8.drop (((rd_T26 x29 x31).f1) : Int).toNat) (x9 ++ y119) x29 x30 (wrap64 (x31 + 1))) else (none))) else (none)) else (none)) else (if 0 ≤ ((rd_T26 x29 x31).f1) then (if ((rd_T26 x29 x31).f1) ≤ (x8.length : Int) then (apply_To.l0 k (x8.drop (((rd_T26 x29 x31).f1) : Int).toNat) x9 x29 x30 (wrap64 (x31 + 1))) else (none)) else (none)))) else (none)) else (none)) else ((runes_str.f x9).bind fun t107 => (some (t107, 0)))
def apply_To.f (k : Nat) (l0 : List (S26)) (a1 : ByteArray) : Option (ByteArray × Int) := (op_May.f k l0).bind fun t101 => (if t101 = 0 then ((points_Count.f a1).bind fun t102 => (if t102 < 0 then (some ((⟨#[]⟩ : ByteArray), 3)) else ((op_In.f k l0).bind fun t103 => (if t102 = t103 then ((str_runes.f a1).bind fun t104 => (apply_To.l0 k t104 ([] : List Int) l0 (l0.length : Int) 0)) else (some ((⟨#[]⟩ : ByteArray), 5)))))) else (some ((⟨#[]⟩ : ByteArray), t101)))
theorem apply_To.mono_l : ∀ k, (∀ y0 y1 y2 y3 y4, LeO (apply_To.l0 k y0 y1 y2 y3 y4) (apply_To.l0 (k + 1) y0 y1 y2 y3 y4))
  | 0 => fun _ _ _ _ _ r h => by simp [apply_To.l0] at h
  | k + 1 => by
    have ih0 := apply_To.mono_l k
    · intro y0 y1 y2 y3 y4
      unfold apply_To.l0
      repeat' first
      | (with_reducible exact ih0 _ _ _ _ _)
      | (with_reducible exact op_In.mono _ _)
      | (with_reducible exact op_May.mono _ _)
      | (with_reducible exact LeO.refl _)
      | (with_reducible exact LeO.none _)
      | (with_reducible refine LeO.ite ?_ ?_)
      | (with_reducible refine LeO.bind ?_ (fun _ => ?_))
      | exact ih0 _ _ _ _ _
      | exact op_In.mono _ _
      | exact op_May.mono _ _
      | exact LeO.none _
      | refine LeO.ite ?_ ?_
      | refine LeO.bind ?_ (fun _ => ?_)
theorem apply_To.mono : ∀ a0 a1 k, LeO (apply_To.f k a0 a1) (apply_To.f (k + 1) a0 a1) := by
  intro a0 a1 k
  have ih0 := apply_To.mono_l k
  unfold apply_To.f
  repeat' first
      | (with_reducible exact ih0 _ _ _ _ _)
      | (with_reducible exact op_In.mono _ _)
      | (with_reducible exact op_May.mono _ _)
      | (with_reducible exact LeO.refl _)
      | (with_reducible exact LeO.none _)
      | (with_reducible refine LeO.ite ?_ ?_)
      | (with_reducible refine LeO.bind ?_ (fun _ => ?_))
      | exact ih0 _ _ _ _ _
      | exact op_In.mono _ _
      | exact op_May.mono _ _
      | exact LeO.none _
      | refine LeO.ite ?_ ?_
      | refine LeO.bind ?_ (fun _ => ?_)
end Go.Proofs.YtkefbljogjcodaaDoor.F
end
section
namespace Go.Proofs.YtkefbljogjcodaaDoor.F
open Go.RowKit Go.Proofs.YtkefbljogjcodaaDoorW.PrintWords Go.Proofs.YtkefbljogjcodaaDoorW.PrintLast Go.Proofs.YtkefbljogjcodaaDoorW.PrintMore
attribute [local go_sem] max2_int min2_int max_two min_two max_three min_three max_four min_four cell_setCell_isSome
set_option linter.unusedVariables false
set_option linter.unusedSimpArgs false
mutual
def apply_All.j0 : Nat → ByteArray → List (List (S26)) → Bool → Option (ByteArray × Int)
  | 0, _, _, _ => none
  | k + 1, x0, x1, x17 => if x17 = true then (some ((⟨#[]⟩ : ByteArray), 3)) else (apply_All.l0 k x0 x1 (x1.length : Int) 0)
def apply_All.l0 : Nat → ByteArray → List (List (S26)) → Int → Int → Option (ByteArray × Int)
  | 0, _, _, _, _ => none
  | k + 1, x0, x18, x19, x20 => if x20 < x19 then (if 0 ≤ x20 then (if x20 < (x18.length : Int) then ((apply_To.f k (rd_L4 x18 x20) x0).bind fun bt103 => (if bt103.2 = 0 then (apply_All.l0 k bt103.1 x18 x19 (wrap64 (x20 + 1))) else (some ((⟨#[]⟩ : ByteArray), bt103.2)))) else (none)) else (none)) else (some (x0, 0))
end
theorem apply_All.mono_l : ∀ k, (∀ y0 y1 y2, LeO (apply_All.j0 k y0 y1 y2) (apply_All.j0 (k + 1) y0 y1 y2)) ∧ (∀ y0 y1 y2 y3, LeO (apply_All.l0 k y0 y1 y2 y3) (apply_All.l0 (k + 1) y0 y1 y2 y3))
  | 0 => ⟨fun _ _ _ r h => by simp [apply_All.j0] at h, fun _ _ _ _ r h => by simp [apply_All.l0] at h⟩
  | k + 1 => by
    obtain ⟨ih0, ih1⟩ := apply_All.mono_l k
    refine ⟨?_, ?_⟩
    · intro y0 y1 y2
      unfold apply_All.j0
      repeat' first
      | (with_reducible exact ih0 _ _ _)
      | (with_reducible exact ih1 _ _ _ _)
      | (with_reducible exact apply_To.mono _ _ _)
      | (with_reducible exact LeO.refl _)
      | (with_reducible exact LeO.none _)
      | (with_reducible refine LeO.ite ?_ ?_)
      | (with_reducible refine LeO.bind ?_ (fun _ => ?_))
      | exact ih0 _ _ _
      | exact ih1 _ _ _ _
      | exact apply_To.mono _ _ _
      | exact LeO.none _
      | refine LeO.ite ?_ ?_
      | refine LeO.bind ?_ (fun _ => ?_)
    · intro y0 y1 y2 y3
      unfold apply_All.l0
      repeat' first
      | (with_reducible exact ih0 _ _ _)
      | (with_reducible exact ih1 _ _ _ _)
      | (with_reducible exact apply_To.mono _ _ _)
      | (with_reducible exact LeO.refl _)
      | (with_reducible exact LeO.none _)
      | (with_reducible refine LeO.ite ?_ ?_)
      | (with_reducible refine LeO.bind ?_ (fun _ => ?_))
      | exact ih0 _ _ _
      | exact ih1 _ _ _ _
      | exact apply_To.mono _ _ _
      | exact LeO.none _
      | refine LeO.ite ?_ ?_
      | refine LeO.bind ?_ (fun _ => ?_)
end Go.Proofs.YtkefbljogjcodaaDoor.F
end
section
namespace Go.Proofs.YtkefbljogjcodaaDoor.F
open Go.RowKit Go.Proofs.YtkefbljogjcodaaDoorW.PrintWords Go.Proofs.YtkefbljogjcodaaDoorW.PrintLast Go.Proofs.YtkefbljogjcodaaDoorW.PrintMore
attribute [local go_sem] max2_int min2_int max_two min_two max_three min_three max_four min_four cell_setCell_isSome
set_option linter.unusedVariables false
set_option linter.unusedSimpArgs false
mutual
def epitomeref01_first.j0 : Nat → ByteArray → Int → Int → Int → Bool → Option (Int × Int)
  | 0, _, _, _, _, _ => none
  | k + 1, x0, x4, x5, x6, x21 => if x21 = true then (epitomeref01_first.j3 k x0 3 (wrap64 (x4 - 240))) else (if x4 ≥ 224 then (epitomeref01_first.j1 k x0 x4 x5 x6 (decide (x4 < 240))) else (epitomeref01_first.j1 k x0 x4 x5 x6 false))
def epitomeref01_first.j3 : Nat → ByteArray → Int → Int → Option (Int × Int)
  | 0, _, _, _ => none
  | k + 1, x0, x5, x6 => if (x0.size : Int) < (wrap64 (x5 + 1)) then (some (0, 0)) else (epitomeref01_first.l0 k x0 x5 x6 1)
def epitomeref01_first.l0 : Nat → ByteArray → Int → Int → Int → Option (Int × Int)
  | 0, _, _, _, _ => none
  | k + 1, x0, x5, x6, x7 => if x7 ≤ x5 then (if 0 ≤ x7 then (if x7 < (x0.size : Int) then (if (wrap64 (bt x0 x7)) < 128 then (some (0, 0)) else (if (wrap64 (bt x0 x7)) > 191 then (some (0, 0)) else (epitomeref01_first.l0 k x0 x5 (wrap64 ((wrap64 ((wrap64 (x6 * 64)) + (wrap64 (bt x0 x7)))) - 128)) (wrap64 (x7 + 1))))) else (none)) else (none)) else ((epitomeref01_size.f k x6).bind fun t101 => (if t101 = (wrap64 (x5 + 1)) then (some (x6, wrap64 (x5 + 1))) else (some (0, 0))))
def epitomeref01_first.j1 : Nat → ByteArray → Int → Int → Int → Bool → Option (Int × Int)
  | 0, _, _, _, _, _ => none
  | k + 1, x0, x4, x5, x6, x29 => if x29 = true then (epitomeref01_first.j3 k x0 2 (wrap64 (x4 - 224))) else (if x4 ≥ 192 then (epitomeref01_first.j2 k x0 x4 x5 x6 (decide (x4 < 224))) else (epitomeref01_first.j2 k x0 x4 x5 x6 false))
def epitomeref01_first.j2 : Nat → ByteArray → Int → Int → Int → Bool → Option (Int × Int)
  | 0, _, _, _, _, _ => none
  | k + 1, x0, x4, x5, x6, x37 => if x37 = true then (epitomeref01_first.j3 k x0 1 (wrap64 (x4 - 192))) else (if x4 ≥ 128 then (some (0, 0)) else (epitomeref01_first.j3 k x0 x5 x6))
end
def epitomeref01_first.f (k : Nat) (a0 : ByteArray) : Option (Int × Int) := if (a0.size : Int) = 0 then (some (0, 0)) else (if 0 < (a0.size : Int) then (if (wrap64 (bt a0 0)) ≥ 240 then (epitomeref01_first.j0 k a0 (wrap64 (bt a0 0)) 0 (wrap64 (bt a0 0)) (decide ((wrap64 (bt a0 0)) < 248))) else (epitomeref01_first.j0 k a0 (wrap64 (bt a0 0)) 0 (wrap64 (bt a0 0)) false)) else (none))
theorem epitomeref01_first.mono_l : ∀ k, (∀ y0 y1 y2 y3 y4, LeO (epitomeref01_first.j0 k y0 y1 y2 y3 y4) (epitomeref01_first.j0 (k + 1) y0 y1 y2 y3 y4)) ∧ (∀ y0 y1 y2, LeO (epitomeref01_first.j3 k y0 y1 y2) (epitomeref01_first.j3 (k + 1) y0 y1 y2)) ∧ (∀ y0 y1 y2 y3, LeO (epitomeref01_first.l0 k y0 y1 y2 y3) (epitomeref01_first.l0 (k + 1) y0 y1 y2 y3)) ∧ (∀ y0 y1 y2 y3 y4, LeO (epitomeref01_first.j1 k y0 y1 y2 y3 y4) (epitomeref01_first.j1 (k + 1) y0 y1 y2 y3 y4)) ∧ (∀ y0 y1 y2 y3 y4, LeO (epitomeref01_first.j2 k y0 y1 y2 y3 y4) (epitomeref01_first.j2 (k + 1) y0 y1 y2 y3 y4))
  | 0 => ⟨fun _ _ _ _ _ r h => by simp [epitomeref01_first.j0] at h, fun _ _ _ r h => by simp [epitomeref01_first.j3] at h, fun _ _ _ _ r h => by simp [epitomeref01_first.l0] at h, fun _ _ _ _ _ r h => by simp [epitomeref01_first.j1] at h, fun _ _ _ _ _ r h => by simp [epitomeref01_first.j2] at h⟩
  | k + 1 => by
    obtain ⟨ih0, ih1, ih2, ih3, ih4⟩ := epitomeref01_first.mono_l k
    refine ⟨?_, ?_, ?_, ?_, ?_⟩
    · intro y0 y1 y2 y3 y4
      unfold epitomeref01_first.j0
      repeat' first
      | (with_reducible exact ih0 _ _ _ _ _)
      | (with_reducible exact ih1 _ _ _)
      | (with_reducible exact ih2 _ _ _ _)
      | (with_reducible exact ih3 _ _ _ _ _)
      | (with_reducible exact ih4 _ _ _ _ _)
      | (with_reducible exact epitomeref01_size.mono _ _)
      | (with_reducible exact LeO.refl _)
      | (with_reducible exact LeO.none _)
      | (with_reducible refine LeO.ite ?_ ?_)
      | (with_reducible refine LeO.bind ?_ (fun _ => ?_))
      | exact ih0 _ _ _ _ _
      | exact ih1 _ _ _
      | exact ih2 _ _ _ _
      | exact ih3 _ _ _ _ _
      | exact ih4 _ _ _ _ _
      | exact epitomeref01_size.mono _ _
      | exact LeO.none _
      | refine LeO.ite ?_ ?_
      | refine LeO.bind ?_ (fun _ => ?_)
    · intro y0 y1 y2
      unfold epitomeref01_first.j3
      repeat' first
      | (with_reducible exact ih0 _ _ _ _ _)
      | (with_reducible exact ih1 _ _ _)
      | (with_reducible exact ih2 _ _ _ _)
      | (with_reducible exact ih3 _ _ _ _ _)
      | (with_reducible exact ih4 _ _ _ _ _)
      | (with_reducible exact epitomeref01_size.mono _ _)
      | (with_reducible exact LeO.refl _)
      | (with_reducible exact LeO.none _)
      | (with_reducible refine LeO.ite ?_ ?_)
      | (with_reducible refine LeO.bind ?_ (fun _ => ?_))
      | exact ih0 _ _ _ _ _
      | exact ih1 _ _ _
      | exact ih2 _ _ _ _
      | exact ih3 _ _ _ _ _
      | exact ih4 _ _ _ _ _
      | exact epitomeref01_size.mono _ _
      | exact LeO.none _
      | refine LeO.ite ?_ ?_
      | refine LeO.bind ?_ (fun _ => ?_)
    · intro y0 y1 y2 y3
      unfold epitomeref01_first.l0
      repeat' first
      | (with_reducible exact ih0 _ _ _ _ _)
      | (with_reducible exact ih1 _ _ _)
      | (with_reducible exact ih2 _ _ _ _)
      | (with_reducible exact ih3 _ _ _ _ _)
      | (with_reducible exact ih4 _ _ _ _ _)
      | (with_reducible exact epitomeref01_size.mono _ _)
      | (with_reducible exact LeO.refl _)
      | (with_reducible exact LeO.none _)
      | (with_reducible refine LeO.ite ?_ ?_)
      | (with_reducible refine LeO.bind ?_ (fun _ => ?_))
      | exact ih0 _ _ _ _ _
      | exact ih1 _ _ _
      | exact ih2 _ _ _ _
      | exact ih3 _ _ _ _ _
      | exact ih4 _ _ _ _ _
      | exact epitomeref01_size.mono _ _
      | exact LeO.none _
      | refine LeO.ite ?_ ?_
      | refine LeO.bind ?_ (fun _ => ?_)
    · intro y0 y1 y2 y3 y4
      unfold epitomeref01_first.j1
      repeat' first
      | (with_reducible exact ih0 _ _ _ _ _)
      | (with_reducible exact ih1 _ _ _)
      | (with_reducible exact ih2 _ _ _ _)
      | (with_reducible exact ih3 _ _ _ _ _)
      | (with_reducible exact ih4 _ _ _ _ _)
      | (with_reducible exact epitomeref01_size.mono _ _)
      | (with_reducible exact LeO.refl _)
      | (with_reducible exact LeO.none _)
      | (with_reducible refine LeO.ite ?_ ?_)
      | (with_reducible refine LeO.bind ?_ (fun _ => ?_))
      | exact ih0 _ _ _ _ _
      | exact ih1 _ _ _
      | exact ih2 _ _ _ _
      | exact ih3 _ _ _ _ _
      | exact ih4 _ _ _ _ _
      | exact epitomeref01_size.mono _ _
      | exact LeO.none _
      | refine LeO.ite ?_ ?_
      | refine LeO.bind ?_ (fun _ => ?_)
    · intro y0 y1 y2 y3 y4
      unfold epitomeref01_first.j2
      repeat' first
      | (with_reducible exact ih0 _ _ _ _ _)
      | (with_reducible exact ih1 _ _ _)
      | (with_reducible exact ih2 _ _ _ _)
      | (with_reducible exact ih3 _ _ _ _ _)
      | (with_reducible exact ih4 _ _ _ _ _)
      | (with_reducible exact epitomeref01_size.mono _ _)
      | (with_reducible exact LeO.refl _)
      | (with_reducible exact LeO.none _)
      | (with_reducible refine LeO.ite ?_ ?_)
      | (with_reducible refine LeO.bind ?_ (fun _ => ?_))
      | exact ih0 _ _ _ _ _
      | exact ih1 _ _ _
      | exact ih2 _ _ _ _
      | exact ih3 _ _ _ _ _
      | exact ih4 _ _ _ _ _
      | exact epitomeref01_size.mono _ _
      | exact LeO.none _
      | refine LeO.ite ?_ ?_
      | refine LeO.bind ?_ (fun _ => ?_)
theorem epitomeref01_first.mono : ∀ a0 k, LeO (epitomeref01_first.f k a0) (epitomeref01_first.f (k + 1) a0) := by
  intro a0 k
  obtain ⟨ih0, ih1, ih2, ih3, ih4⟩ := epitomeref01_first.mono_l k
  unfold epitomeref01_first.f
  repeat' first
      | (with_reducible exact ih0 _ _ _ _ _)
      | (with_reducible exact ih1 _ _ _)
      | (with_reducible exact ih2 _ _ _ _)
      | (with_reducible exact ih3 _ _ _ _ _)
      | (with_reducible exact ih4 _ _ _ _ _)
      | (with_reducible exact epitomeref01_size.mono _ _)
      | (with_reducible exact LeO.refl _)
      | (with_reducible exact LeO.none _)
      | (with_reducible refine LeO.ite ?_ ?_)
      | (with_reducible refine LeO.bind ?_ (fun _ => ?_))
      | exact ih0 _ _ _ _ _
      | exact ih1 _ _ _
      | exact ih2 _ _ _ _
      | exact ih3 _ _ _ _ _
      | exact ih4 _ _ _ _ _
      | exact epitomeref01_size.mono _ _
      | exact LeO.none _
      | refine LeO.ite ?_ ?_
      | refine LeO.bind ?_ (fun _ => ?_)
end Go.Proofs.YtkefbljogjcodaaDoor.F
end
section
namespace Go.Proofs.YtkefbljogjcodaaDoor.F
open Go.RowKit Go.Proofs.YtkefbljogjcodaaDoorW.PrintWords Go.Proofs.YtkefbljogjcodaaDoorW.PrintLast Go.Proofs.YtkefbljogjcodaaDoorW.PrintMore
attribute [local go_sem] max2_int min2_int max_two min_two max_three min_three max_four min_four cell_setCell_isSome
set_option linter.unusedVariables false
set_option linter.unusedSimpArgs false
def epitomeref01_Starts.l0 : Nat → ByteArray → List Int → Int → Option (List Int × Bool)
  | 0, _, _, _ => none
  | k + 1, x0, x4, x5 => if x5 < (x0.size : Int) then (if 0 ≤ x5 then (if x5 ≤ (x0.size : Int) then ((epitomeref01_first.f k (x0.extract (x5 : Int).toNat x0.size)).bind fun bt104 => (if bt104.2 = 0 then (some (([] : List Int), false)) else (if x4.length < 17592186044416 then (epitomeref01_Starts.l0 k x0 (x4 ++ [wrap64 (x5 + bt104.2)]) (wrap64 (x5 + bt104.2))) else (none)))) else (none)) else (none)) else (some (x4, true))
def epitomeref01_Starts.f (k : Nat) (a0 : ByteArray) : Option (List Int × Bool) := epitomeref01_Starts.l0 k a0 (([0] : List Int)) 0
theorem epitomeref01_Starts.mono_l : ∀ k, (∀ y0 y1 y2, LeO (epitomeref01_Starts.l0 k y0 y1 y2) (epitomeref01_Starts.l0 (k + 1) y0 y1 y2))
  | 0 => fun _ _ _ r h => by simp [epitomeref01_Starts.l0] at h
  | k + 1 => by
    have ih0 := epitomeref01_Starts.mono_l k
    · intro y0 y1 y2
      unfold epitomeref01_Starts.l0
      repeat' first
      | (with_reducible exact ih0 _ _ _)
      | (with_reducible exact epitomeref01_first.mono _ _)
      | (with_reducible exact LeO.refl _)
      | (with_reducible exact LeO.none _)
      | (with_reducible refine LeO.ite ?_ ?_)
      | (with_reducible refine LeO.bind ?_ (fun _ => ?_))
      | exact ih0 _ _ _
      | exact epitomeref01_first.mono _ _
      | exact LeO.none _
      | refine LeO.ite ?_ ?_
      | refine LeO.bind ?_ (fun _ => ?_)
theorem epitomeref01_Starts.mono : ∀ a0 k, LeO (epitomeref01_Starts.f k a0) (epitomeref01_Starts.f (k + 1) a0) := by
  intro a0 k
  have ih0 := epitomeref01_Starts.mono_l k
  unfold epitomeref01_Starts.f
  repeat' first
      | (with_reducible exact ih0 _ _ _)
      | (with_reducible exact epitomeref01_first.mono _ _)
      | (with_reducible exact LeO.refl _)
      | (with_reducible exact LeO.none _)
      | (with_reducible refine LeO.ite ?_ ?_)
      | (with_reducible refine LeO.bind ?_ (fun _ => ?_))
      | exact ih0 _ _ _
      | exact epitomeref01_first.mono _ _
      | exact LeO.none _
      | refine LeO.ite ?_ ?_
      | refine LeO.bind ?_ (fun _ => ?_)
end Go.Proofs.YtkefbljogjcodaaDoor.F
end
section
namespace Go.Proofs.YtkefbljogjcodaaDoor.F
open Go.RowKit Go.Proofs.YtkefbljogjcodaaDoorW.PrintWords Go.Proofs.YtkefbljogjcodaaDoorW.PrintLast Go.Proofs.YtkefbljogjcodaaDoorW.PrintMore
attribute [local go_sem] max2_int min2_int max_two min_two max_three min_three max_four min_four cell_setCell_isSome
set_option linter.unusedVariables false
set_option linter.unusedSimpArgs false
def epitomeref01_Count.f (k : Nat) (a0 : ByteArray) : Option (Int) := (epitomeref01_Starts.f k a0).bind fun bt101 => (some (wrap64 ((bt101.1.length : Int) - 1)))
theorem epitomeref01_Count.mono : ∀ a0 k, LeO (epitomeref01_Count.f k a0) (epitomeref01_Count.f (k + 1) a0) := by
  intro a0 k
  unfold epitomeref01_Count.f
  repeat' first
      | (with_reducible exact epitomeref01_Starts.mono _ _)
      | (with_reducible exact LeO.refl _)
      | (with_reducible exact LeO.none _)
      | (with_reducible refine LeO.ite ?_ ?_)
      | (with_reducible refine LeO.bind ?_ (fun _ => ?_))
      | exact epitomeref01_Starts.mono _ _
      | exact LeO.none _
      | refine LeO.ite ?_ ?_
      | refine LeO.bind ?_ (fun _ => ?_)
end Go.Proofs.YtkefbljogjcodaaDoor.F
end
section
namespace Go.Proofs.YtkefbljogjcodaaDoor.F
open Go.RowKit Go.Proofs.YtkefbljogjcodaaDoorW.PrintWords Go.Proofs.YtkefbljogjcodaaDoorW.PrintLast Go.Proofs.YtkefbljogjcodaaDoorW.PrintMore
attribute [local go_sem] max2_int min2_int max_two min_two max_three min_three max_four min_four cell_setCell_isSome
set_option linter.unusedVariables false
set_option linter.unusedSimpArgs false
def epitomeref03_Out.f (k : Nat) (a0_0 : Int) (a0_1 : Int) (a0_2 : ByteArray) : Option (Int) := if a0_0 = 1 then (some a0_1) else (if a0_0 = 2 then ((epitomeref01_Count.f k a0_2).bind fun t102 => (some (mx t102 0))) else (some 0))
theorem epitomeref03_Out.mono : ∀ a0 a1 a2 k, LeO (epitomeref03_Out.f k a0 a1 a2) (epitomeref03_Out.f (k + 1) a0 a1 a2) := by
  intro a0 a1 a2 k
  unfold epitomeref03_Out.f
  repeat' first
      | (with_reducible exact epitomeref01_Count.mono _ _)
      | (with_reducible exact LeO.refl _)
      | (with_reducible exact LeO.none _)
      | (with_reducible refine LeO.ite ?_ ?_)
      | (with_reducible refine LeO.bind ?_ (fun _ => ?_))
      | exact epitomeref01_Count.mono _ _
      | exact LeO.none _
      | refine LeO.ite ?_ ?_
      | refine LeO.bind ?_ (fun _ => ?_)
end Go.Proofs.YtkefbljogjcodaaDoor.F
end
section
namespace Go.Proofs.YtkefbljogjcodaaDoor.F
open Go.RowKit Go.Proofs.YtkefbljogjcodaaDoorW.PrintWords Go.Proofs.YtkefbljogjcodaaDoorW.PrintLast Go.Proofs.YtkefbljogjcodaaDoorW.PrintMore
attribute [local go_sem] max2_int min2_int max_two min_two max_three min_three max_four min_four cell_setCell_isSome
set_option linter.unusedVariables false
set_option linter.unusedSimpArgs false
def epitomeref04_Out.l0 : Nat → List (S26) → Int → Int → Option (Int)
  | 0, _, _, _ => none
  | k + 1, x0, x3, x4 => if x4 < (x0.length : Int) then (if 0 ≤ x4 then ((epitomeref03_Out.f k ((rd_T26 x0 x4).f0) ((rd_T26 x0 x4).f1) ((rd_T26 x0 x4).f2)).bind fun t102 => (epitomeref04_Out.l0 k x0 (wrap64 (x3 + t102)) (wrap64 (x4 + 1)))) else (none)) else (some x3)
def epitomeref04_Out.f (k : Nat) (l0 : List (S26)) : Option (Int) := epitomeref04_Out.l0 k l0 0 0
theorem epitomeref04_Out.mono_l : ∀ k, (∀ y0 y1 y2, LeO (epitomeref04_Out.l0 k y0 y1 y2) (epitomeref04_Out.l0 (k + 1) y0 y1 y2))
  | 0 => fun _ _ _ r h => by simp [epitomeref04_Out.l0] at h
  | k + 1 => by
    have ih0 := epitomeref04_Out.mono_l k
    · intro y0 y1 y2
      unfold epitomeref04_Out.l0
      repeat' first
      | (with_reducible exact ih0 _ _ _)
      | (with_reducible exact epitomeref03_Out.mono _ _ _ _)
      | (with_reducible exact LeO.refl _)
      | (with_reducible exact LeO.none _)
      | (with_reducible refine LeO.ite ?_ ?_)
      | (with_reducible refine LeO.bind ?_ (fun _ => ?_))
      | exact ih0 _ _ _
      | exact epitomeref03_Out.mono _ _ _ _
      | exact LeO.none _
      | refine LeO.ite ?_ ?_
      | refine LeO.bind ?_ (fun _ => ?_)
theorem epitomeref04_Out.mono : ∀ a0 k, LeO (epitomeref04_Out.f k a0) (epitomeref04_Out.f (k + 1) a0) := by
  intro a0 k
  have ih0 := epitomeref04_Out.mono_l k
  unfold epitomeref04_Out.f
  repeat' first
      | (with_reducible exact ih0 _ _ _)
      | (with_reducible exact epitomeref03_Out.mono _ _ _ _)
      | (with_reducible exact LeO.refl _)
      | (with_reducible exact LeO.none _)
      | (with_reducible refine LeO.ite ?_ ?_)
      | (with_reducible refine LeO.bind ?_ (fun _ => ?_))
      | exact ih0 _ _ _
      | exact epitomeref03_Out.mono _ _ _ _
      | exact LeO.none _
      | refine LeO.ite ?_ ?_
      | refine LeO.bind ?_ (fun _ => ?_)
end Go.Proofs.YtkefbljogjcodaaDoor.F
end
section
namespace Go.Proofs.YtkefbljogjcodaaDoor.F
open Go.RowKit Go.Proofs.YtkefbljogjcodaaDoorW.PrintWords Go.Proofs.YtkefbljogjcodaaDoorW.PrintLast Go.Proofs.YtkefbljogjcodaaDoorW.PrintMore
attribute [local go_sem] max2_int min2_int max_two min_two max_three min_three max_four min_four cell_setCell_isSome
set_option linter.unusedVariables false
set_option linter.unusedSimpArgs false
mutual
def epitomeref04_Chain.l0 : Nat → List (List (S26)) → Int → List (List (S26)) → Int → Option ((List (List (S26))))
  | 0, _, _, _, _ => none
  | k + 1, x0, x1, x5, x6 => if x6 < (x0.length : Int) then (epitomeref04_Chain.j1 k x0 x1 x5 x6 (decide (x6 < 20))) else (epitomeref04_Chain.j1 k x0 x1 x5 x6 false)
def epitomeref04_Chain.j1 : Nat → List (List (S26)) → Int → List (List (S26)) → Int → Bool → Option ((List (List (S26))))
  | 0, _, _, _, _, _ => none
  | k + 1, x0, x1, x5, x6, x16 => if x16 = true then (if 0 ≤ x6 then (if x6 < (x0.length : Int) then ((epitomeref04_Fit.f k (rd_L4 x0 x6) x1).bind fun t105 => (if x5.length < 5864062014805 then ((epitomeref04_Out.f k t105).bind fun t111 => (epitomeref04_Chain.l0 k x0 t111 (x5 ++ [t105]) (wrap64 (x6 + 1)))) else (none))) else (none)) else (none)) else (some x5)
end
theorem epitomeref04_Chain.mono_l : ∀ k, (∀ y0 y1 y2 y3, LeO (epitomeref04_Chain.l0 k y0 y1 y2 y3) (epitomeref04_Chain.l0 (k + 1) y0 y1 y2 y3)) ∧ (∀ y0 y1 y2 y3 y4, LeO (epitomeref04_Chain.j1 k y0 y1 y2 y3 y4) (epitomeref04_Chain.j1 (k + 1) y0 y1 y2 y3 y4))
  | 0 => ⟨fun _ _ _ _ r h => by simp [epitomeref04_Chain.l0] at h, fun _ _ _ _ _ r h => by simp [epitomeref04_Chain.j1] at h⟩
  | k + 1 => by
    obtain ⟨ih0, ih1⟩ := epitomeref04_Chain.mono_l k
    refine ⟨?_, ?_⟩
    · intro y0 y1 y2 y3
      unfold epitomeref04_Chain.l0
      repeat' first
      | (with_reducible exact ih0 _ _ _ _)
      | (with_reducible exact ih1 _ _ _ _ _)
      | (with_reducible exact epitomeref04_Fit.mono _ _ _)
      | (with_reducible exact epitomeref04_Out.mono _ _)
      | (with_reducible exact LeO.refl _)
      | (with_reducible exact LeO.none _)
      | (with_reducible refine LeO.ite ?_ ?_)
      | (with_reducible refine LeO.bind ?_ (fun _ => ?_))
      | exact ih0 _ _ _ _
      | exact ih1 _ _ _ _ _
      | exact epitomeref04_Fit.mono _ _ _
      | exact epitomeref04_Out.mono _ _
      | exact LeO.none _
      | refine LeO.ite ?_ ?_
      | refine LeO.bind ?_ (fun _ => ?_)
    · intro y0 y1 y2 y3 y4
      unfold epitomeref04_Chain.j1
      repeat' first
      | (with_reducible exact ih0 _ _ _ _)
      | (with_reducible exact ih1 _ _ _ _ _)
      | (with_reducible exact epitomeref04_Fit.mono _ _ _)
      | (with_reducible exact epitomeref04_Out.mono _ _)
      | (with_reducible exact LeO.refl _)
      | (with_reducible exact LeO.none _)
      | (with_reducible refine LeO.ite ?_ ?_)
      | (with_reducible refine LeO.bind ?_ (fun _ => ?_))
      | exact ih0 _ _ _ _
      | exact ih1 _ _ _ _ _
      | exact epitomeref04_Fit.mono _ _ _
      | exact epitomeref04_Out.mono _ _
      | exact LeO.none _
      | refine LeO.ite ?_ ?_
      | refine LeO.bind ?_ (fun _ => ?_)
end Go.Proofs.YtkefbljogjcodaaDoor.F
end
section
namespace Go.Proofs.YtkefbljogjcodaaDoor.F
open Go.RowKit Go.Proofs.YtkefbljogjcodaaDoorW.PrintWords Go.Proofs.YtkefbljogjcodaaDoorW.PrintLast Go.Proofs.YtkefbljogjcodaaDoorW.PrintMore
attribute [local go_sem] max2_int min2_int max_two min_two max_three min_three max_four min_four cell_setCell_isSome
set_option linter.unusedVariables false
set_option linter.unusedSimpArgs false
def op_Keep.j0 : Nat → Int → Bool → Option ((List (S26)) × Int)
  | 0, _, _ => none
  | k + 1, x0, x9 => if x9 = true then (some (([] : List (S26)), 2)) else (if x0 = 0 then (some (([] : List (S26)), 0)) else (some ((([(⟨1, x0, (⟨#[]⟩ : ByteArray)⟩ : S26)] : List (S26))), 0)))
theorem op_Keep.mono_l : ∀ k, (∀ y0 y1, LeO (op_Keep.j0 k y0 y1) (op_Keep.j0 (k + 1) y0 y1))
  | 0 => fun _ _ r h => by simp [op_Keep.j0] at h
  | k + 1 => by
    have ih0 := op_Keep.mono_l k
    · intro y0 y1
      unfold op_Keep.j0
      repeat' first
      | (with_reducible exact ih0 _ _)
      | (with_reducible exact LeO.refl _)
      | (with_reducible exact LeO.none _)
      | (with_reducible refine LeO.ite ?_ ?_)
      | (with_reducible refine LeO.bind ?_ (fun _ => ?_))
      | exact ih0 _ _
      | exact LeO.none _
      | refine LeO.ite ?_ ?_
      | refine LeO.bind ?_ (fun _ => ?_)
end Go.Proofs.YtkefbljogjcodaaDoor.F
end
