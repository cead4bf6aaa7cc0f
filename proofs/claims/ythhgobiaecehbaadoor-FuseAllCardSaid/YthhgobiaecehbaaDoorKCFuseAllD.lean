import Derived.Test.YthhgobiaecehbaaDoorKCFuseAllC
import Derived.Below
import Derived.Deep.Draws
import Derived.Deep.AppendLies
import Derived.Maps.AppendAt
import Derived.OwnWalk
import Derived.Laws.BytesArg
import Derived.Laws.MakeOwn
import Derived.Laws.OwnMore
import Derived.Deep.OwnRows
import Derived.Tactics
import Derived.Lib.ConvBytes
import Derived.Laws.Slices
import Derived.WalkKit
import Derived.KernelRfl
import Derived.RowKit3
import Derived.Deep.LoopGhost
import Derived.Deep.QuietTactic
import Derived.BigQuiet
import Derived.WideLaws
import Derived.Deep.DeepCutAuto
import Derived.Deep.CutBlock
import Derived.Deep.RegionHeld3
import Derived.Laws.Rows
import Derived.Lib.AppendStr
import Derived.ArgAppend
import Derived.Laws.IdiomCopy
import Derived.RowKit
import Derived.OrdersHeld
import Derived.Laws.BitsLemmas
import Derived.Laws.StructEq
import Derived.Test.YthhgobiaecehbaaDoorProg
import Derived.Handy
import Derived.Shelf.Unicode.DecodeSlow
import Derived.Ground.NamesProg
import Derived.Shelf.Unicode.ValidAny
import Derived.Laws.RangeString
import Derived.Laws.RangeAny
import Derived.Lib.RuneCount
import Derived.Laws.IdiomStrings
import Derived.Laws.Cover4
import Derived.Great.BuildSlice
section
namespace Go.Proofs.YthhgobiaecehbaaDoor.F
open Go.RowKit Go.Proofs.YthhgobiaecehbaaDoorW.PrintWords Go.Proofs.YthhgobiaecehbaaDoorW.PrintLast Go.Proofs.YthhgobiaecehbaaDoorW.PrintMore
attribute [local go_sem] max2_int min2_int max_two min_two max_three min_three max_four min_four cell_setCell_isSome
set_option linter.unusedVariables false
set_option linter.unusedSimpArgs false
open Kd
def epitomeref04_Out.l0 : Nat → List (S41) → Int → Int → Option (Int)
  | 0, _, _, _ => none
  | k + 1, x0, x3, x4 => if x4 < (x0.length : Int) then (if 0 ≤ x4 then ((epitomeref03_Out.f k ((rd_T41 x0 x4).f0) ((rd_T41 x0 x4).f1) ((rd_T41 x0 x4).f2)).bind fun t102 => (epitomeref04_Out.l0 k x0 (wrap64 (x3 + t102)) (wrap64 (x4 + 1)))) else (none)) else (some x3)
def epitomeref04_Out.f (k : Nat) (l0 : List (S41)) : Option (Int) := epitomeref04_Out.l0 k l0 0 0
theorem epitomeref04_Out.mono_l : ∀ k, (∀ y0 y1 y2, LeO (epitomeref04_Out.l0 k y0 y1 y2) (epitomeref04_Out.l0 (k + 1) y0 y1 y2))
  | 0 => fun _ _ _ r h => by simp [epitomeref04_Out.l0] at h
  | k + 1 => by
    have ih0 := epitomeref04_Out.mono_l k
    · intro y0 y1 y2
      unfold epitomeref04_Out.l0
      repeat' first
      | (with_reducible exact ih0 _ _ _)
      | (with_reducible exact epitomeref03_Out.mono _ _ _ _)
      | (with_reducible exact LeO.refl _)
      | (with_reducible exact LeO.none _)
      | (with_reducible refine LeO.ite ?_ ?_)
      | (with_reducible refine LeO.bind ?_ (fun _ => ?_))
      | exact ih0 _ _ _
      | exact epitomeref03_Out.mono _ _ _ _
      | exact LeO.none _
      | refine LeO.ite ?_ ?_
      | refine LeO.bind ?_ (fun _ => ?_)
theorem epitomeref04_Out.mono : ∀ a0 k, LeO (epitomeref04_Out.f k a0) (epitomeref04_Out.f (k + 1) a0) := by
  intro a0 k
  have ih0 := epitomeref04_Out.mono_l k
  unfold epitomeref04_Out.f
  repeat' first
      | (with_reducible exact ih0 _ _ _)
      | (with_reducible exact epitomeref03_Out.mono _ _ _ _)
      | (with_reducible exact LeO.refl _)
      | (with_reducible exact LeO.none _)
      | (with_reducible refine LeO.ite ?_ ?_)
      | (with_reducible refine LeO.bind ?_ (fun _ => ?_))
      | exact ih0 _ _ _
      | exact epitomeref03_Out.mono _ _ _ _
      | exact LeO.none _
      | refine LeO.ite ?_ ?_
      | refine LeO.bind ?_ (fun _ => ?_)
set_option maxHeartbeats 40000000 in
set_option maxRecDepth 100000 in
theorem epitomeref04_Out.calls (k : Nat) (A0 : Option Addr) (c0 : Nat) (l0 : List (S41)) (r : Int) (w : World) (hr0 : Kd.C k41 w A0 l0.length l0) (hc0 : l0.length ≤ c0) (h : epitomeref04_Out.f k l0 = some r) :
  Calls Tryd.prog 48 #[.slice A0 l0.length c0] w fun e w' => e = .returned (.int .i64 r) ∧ Below w.heap.size w w' := by
 have hu41 := Tryd.underlying41
 have HR0 := Am hr0;have HC0 := Am hc0;clear hr0 hc0;have HB := Am (Below.refl w.heap.size w)
 have H : (epitomeref04_Out.l0 k l0 0 0) = some r := h
 clear h;have H' := Am H
 clear H;go_enter Tryd.func48, Tryd.ntmps48
 go_wp2
 go_loopg [3, 4] k (fun kq v3 v4 w' => ∃ (x3_1 : Int) (x4_1 : Int), v3 = .int .i64 x3_1 ∧ v4 = .int .i64 x4_1 ∧ Aside0 (epitomeref04_Out.l0 kq l0 x3_1 x4_1 = some r) ∧ Aside0 (kq ≤ k) ∧ Aside0 (Below w.heap.size w w'))
 case atStart => exact ⟨(0), (0), zG, zG, H', ⟨Nat.le_refl _⟩, ⟨(zB HB)⟩⟩
 case round =>
  clear H';obtain ⟨x3_1, x4_1, rfl, rfl, HA, HK1, HB⟩ := hrel
  cases gk with
  | zero => exact absurd HA.out (by simp [epitomeref04_Out.l0])
  | succ k1 =>
   have H := HA.out;clear HA;simp only [epitomeref04_Out.l0] at H
   by_cases c2 : x4_1 < (l0.length : Int)
   ·rw [if_pos c2] at H;have c2b0 : decide (x4_1 < (l0.length : Int)) = true := decide_eq_true c2
    clear c2;by_cases c3 : 0 ≤ x4_1
    ·rw [if_pos c3] at H;have c3b0 : decide (0 ≤ x4_1) = true := decide_eq_true c3
     clear c3;replace H := Option.bind_eq_some_iff.mp H;obtain ⟨t102, A40, H⟩ := H;replace H : (epitomeref04_Out.l0 k1 l0 (wrap64 (x3_1 + t102)) (wrap64 (x4_1 + 1))) = some r := H
     have A4 := Am A40;clear A40;have H' := Am H
     clear H;have p101 : 0 ≤ (x4_1 : Int) := of_decide_eq_true (by assumption)
     have q101 : x4_1 < (l0.length : Int) := of_decide_eq_true (by assumption)
     obtain ⟨ad101, e101, hx101_0, hx101_1, hx101_2⟩ := at_T41 HR0.out x4_1 p101 q101
     cases e101
     replace hx101_0 := (HB.out.cell (World.block_lt_of_cell? w _ hx101_0)).trans hx101_0
     replace hx101_1 := (HB.out.cell (World.block_lt_of_cell? w _ hx101_1)).trans hx101_1
     replace hx101_2 := (HB.out.cell (World.block_lt_of_cell? w _ hx101_2)).trans hx101_2
     replace p101 := eq_true p101;replace q101 := eq_true q101;go_wp2_with (first | ((with_reducible refine gate_callee (f := 76) rfl ?_); refine goesL_ (some 16) rfl rfl Tryd.func76 (by kernel_rfl) rfl #[.agg #[.int .i64 ((rd_T41 l0 x4_1).f0), .int .i64 ((rd_T41 l0 x4_1).f1), .string ((rd_T41 l0 x4_1).f2)]] rfl zE ?_; (with_reducible refine (epitomeref03_Out.calls k1 ((rd_T41 l0 x4_1).f0) ((rd_T41 l0 x4_1).f1) ((rd_T41 l0 x4_1).f2) t102 _ A4.out).mono ?_); rintro e w5 ⟨rfl, hb⟩; refine ⟨_, rfl, ?_⟩; replace HB := Am (below_step (zB HB) hb); (try clear hb)))
     go_roundg k1
     case measure => have := HK1.out; omega
     case rel => exact ⟨(wrap64 (x3_1 + t102)), (wrap64 (x4_1 + 1)), zG, zG, H', ⟨by have := HK1.out; omega⟩, ⟨(zB HB)⟩⟩
    ·rw [if_neg c3] at H;exact absurd H (by simp)
   ·rw [if_neg c2] at H;have c2b0 : decide (x4_1 < (l0.length : Int)) = false := decide_eq_false c2
    clear c2;obtain rfl := Option.some.inj H;go_wp2
    go_ret
    exact ⟨zF, (zB HB)⟩
end Go.Proofs.YthhgobiaecehbaaDoor.F
end
section
namespace Go.Proofs.YthhgobiaecehbaaDoor.F
open Go.RowKit Go.Proofs.YthhgobiaecehbaaDoorW.PrintWords Go.Proofs.YthhgobiaecehbaaDoorW.PrintLast Go.Proofs.YthhgobiaecehbaaDoorW.PrintMore
attribute [local go_sem] max2_int min2_int max_two min_two max_three min_three max_four min_four cell_setCell_isSome
set_option linter.unusedVariables false
set_option linter.unusedSimpArgs false
open Kd
mutual
def epitomeref04_Chain.l0 : Nat → List (List (S41)) → Int → List (List (S41)) → Int → Option ((List (List (S41))))
  | 0, _, _, _, _ => none
  | k + 1, x0, x1, x5, x6 => if x6 < (x0.length : Int) then (epitomeref04_Chain.j1 k x0 x1 x5 x6 (decide (x6 < 20))) else (epitomeref04_Chain.j1 k x0 x1 x5 x6 false)
def epitomeref04_Chain.j1 : Nat → List (List (S41)) → Int → List (List (S41)) → Int → Bool → Option ((List (List (S41))))
  | 0, _, _, _, _, _ => none
  | k + 1, x0, x1, x5, x6, x16 => if x16 = true then (if 0 ≤ x6 then (if x6 < (x0.length : Int) then ((epitomeref04_Fit.f k (rd_L3 x0 x6) x1).bind fun t105 => (if x5.length < 5864062014805 then ((epitomeref04_Out.f k t105).bind fun t111 => (epitomeref04_Chain.l0 k x0 t111 (x5 ++ [t105]) (wrap64 (x6 + 1)))) else (none))) else (none)) else (none)) else (some x5)
end
def epitomeref04_Chain.f (k : Nat) (l0 : List (List (S41))) (a1 : Int) : Option ((List (List (S41)))) := epitomeref04_Chain.l0 k l0 a1 (([] : List (List (S41)))) 0
theorem epitomeref04_Chain.mono_l : ∀ k, (∀ y0 y1 y2 y3, LeO (epitomeref04_Chain.l0 k y0 y1 y2 y3) (epitomeref04_Chain.l0 (k + 1) y0 y1 y2 y3)) ∧ (∀ y0 y1 y2 y3 y4, LeO (epitomeref04_Chain.j1 k y0 y1 y2 y3 y4) (epitomeref04_Chain.j1 (k + 1) y0 y1 y2 y3 y4))
  | 0 => ⟨fun _ _ _ _ r h => by simp [epitomeref04_Chain.l0] at h, fun _ _ _ _ _ r h => by simp [epitomeref04_Chain.j1] at h⟩
  | k + 1 => by
    obtain ⟨ih0, ih1⟩ := epitomeref04_Chain.mono_l k
    refine ⟨?_, ?_⟩
    · intro y0 y1 y2 y3
      unfold epitomeref04_Chain.l0
      repeat' first
      | (with_reducible exact ih0 _ _ _ _)
      | (with_reducible exact ih1 _ _ _ _ _)
      | (with_reducible exact epitomeref04_Fit.mono _ _ _)
      | (with_reducible exact epitomeref04_Out.mono _ _)
      | (with_reducible exact LeO.refl _)
      | (with_reducible exact LeO.none _)
      | (with_reducible refine LeO.ite ?_ ?_)
      | (with_reducible refine LeO.bind ?_ (fun _ => ?_))
      | exact ih0 _ _ _ _
      | exact ih1 _ _ _ _ _
      | exact epitomeref04_Fit.mono _ _ _
      | exact epitomeref04_Out.mono _ _
      | exact LeO.none _
      | refine LeO.ite ?_ ?_
      | refine LeO.bind ?_ (fun _ => ?_)
    · intro y0 y1 y2 y3 y4
      unfold epitomeref04_Chain.j1
      repeat' first
      | (with_reducible exact ih0 _ _ _ _)
      | (with_reducible exact ih1 _ _ _ _ _)
      | (with_reducible exact epitomeref04_Fit.mono _ _ _)
      | (with_reducible exact epitomeref04_Out.mono _ _)
      | (with_reducible exact LeO.refl _)
      | (with_reducible exact LeO.none _)
      | (with_reducible refine LeO.ite ?_ ?_)
      | (with_reducible refine LeO.bind ?_ (fun _ => ?_))
      | exact ih0 _ _ _ _
      | exact ih1 _ _ _ _ _
      | exact epitomeref04_Fit.mono _ _ _
      | exact epitomeref04_Out.mono _ _
      | exact LeO.none _
      | refine LeO.ite ?_ ?_
      | refine LeO.bind ?_ (fun _ => ?_)
theorem epitomeref04_Chain.mono : ∀ a0 a1 k, LeO (epitomeref04_Chain.f k a0 a1) (epitomeref04_Chain.f (k + 1) a0 a1) := by
  intro a0 a1 k
  obtain ⟨ih0, ih1⟩ := epitomeref04_Chain.mono_l k
  unfold epitomeref04_Chain.f
  repeat' first
      | (with_reducible exact ih0 _ _ _ _)
      | (with_reducible exact ih1 _ _ _ _ _)
      | (with_reducible exact epitomeref04_Fit.mono _ _ _)
      | (with_reducible exact epitomeref04_Out.mono _ _)
      | (with_reducible exact LeO.refl _)
      | (with_reducible exact LeO.none _)
      | (with_reducible refine LeO.ite ?_ ?_)
      | (with_reducible refine LeO.bind ?_ (fun _ => ?_))
      | exact ih0 _ _ _ _
      | exact ih1 _ _ _ _ _
      | exact epitomeref04_Fit.mono _ _ _
      | exact epitomeref04_Out.mono _ _
      | exact LeO.none _
      | refine LeO.ite ?_ ?_
      | refine LeO.bind ?_ (fun _ => ?_)
set_option maxHeartbeats 40000000 in
set_option maxRecDepth 100000 in
theorem epitomeref04_Chain.calls (k : Nat) (A0 : Option Addr) (c0 : Nat) (l0 : List (List (S41))) (a1 : Int) (r : List (List (S41))) (w : World) (hr0 : Kd.C (Kd.slice 41 k41) w A0 l0.length l0) (hc0 : l0.length ≤ c0) (h : epitomeref04_Chain.f k l0 a1 = some r) :
  Calls Tryd.prog 20 #[.slice A0 l0.length c0, .int .i64 a1] w fun e w' => ∃ v0_ : Value, e = .returned (v0_) ∧ Kd.S (Kd.slice 41 k41) 24 w' w.heap.size (fun _ => True) v0_ r ∧ Below w.heap.size w w' := by
 have HR0 := Am hr0;have HC0 := Am hc0;clear hr0 hc0;have HB := Am (Below.refl w.heap.size w)
 have H : (epitomeref04_Chain.l0 k l0 a1 (([] : List (List (S41)))) 0) = some r := h
 clear h;obtain ⟨y101, hy101⟩ : ∃ y_ : List (List (S41)), y_ = (([] : List (List (S41)))) := ⟨_, rfl⟩
 replace H : (epitomeref04_Chain.l0 k l0 a1 y101 0) = some r := by first | (rw [hy101]; with_reducible exact H) | (have H2_ := (Option.bind_some _ _).symm.trans H; rw [hy101]; with_reducible exact H2_) | (have H2_ := (Option.bind_some _ _).symm.trans H; with_reducible exact H2_) | with_reducible exact H | (rw [hy101]; exact H) | exact H
 have Ny101 := Am hy101;clear hy101;have H' := Am H
 clear H;go_enter Tryd.func20, Tryd.ntmps20
 go_wp2_with (first | ((with_reducible refine gate_dst (N := 8) rfl ?_); refine Kd.S_lit (Kd.slice 41 k41) _ 24 ?hg (N := 8) ?hd (xs := ([] : List (List (S41)))) (inner := []) (ok := fun _ => True) (okp := fun _ => True) ?hr ?hp (fun _ hk => hk) trivial (Below.refl _ _) (Nat.le_refl _) (by simp) ?_; (case hd => rfl); (case hg => rfl); (case hr => first | (go_simp; done) | (go_simp; rfl)); (case hp => exact (Reps.none _ _)); intro v102 w3 ho4 hb hg_ hnew_; clear hg_ hnew_; (first | rw [← Ny101.out] at ho4 | (simp only [Int.reduceToNat] at ho4; rw [← Ny101.out] at ho4)); have HO103 := Am (Kd.S_lower ho4 (below_size (zB HB)));replace HB := Am (below_step (zB HB) hb); clear hb ho4))
 go_loopg [1, 5, 6] k (fun kq v1 v5 v6 w' => ∃ (x1_1 : Int) (x5_1 : List (List (S41))) (x6_1 : Int), v1 = .int .i64 x1_1 ∧ v6 = .int .i64 x6_1 ∧ Aside0 (epitomeref04_Chain.l0 kq l0 x1_1 x5_1 x6_1 = some r) ∧ Aside0 (kq ≤ k) ∧ Aside0 (Kd.S (Kd.slice 41 k41) 24 w' w.heap.size (fun _ => True) v5 x5_1) ∧ Aside0 (Below w.heap.size w w'))
 case atStart => exact ⟨(a1), (y101), (0), zG, zG, H', ⟨Nat.le_refl _⟩, ⟨by (with_reducible repeat (first | apply Kd.S_alloc | apply Kd.S_drewN | apply Kd.S_drew)); exact HO103.out⟩, ⟨(zB HB)⟩⟩
 case round =>
  clear H';(try clear c2);(try clear p2);obtain ⟨x1_1, x5_1, x6_1, rfl, rfl, HA, HK1, HO_5, HB⟩ := hrel
  cases gk with
  | zero => exact absurd HA.out (by simp [epitomeref04_Chain.l0])
  | succ k1 =>
   have H := HA.out;clear HA;simp only [epitomeref04_Chain.l0] at H
   have HC5 := Am H;clear H;go_upto_region 3 with (fail)
   go_cut [16] (fun v16 wc => ∃ (kq : Nat) (x16_4 : Bool), v16 = .bool x16_4 ∧ Aside0 (epitomeref04_Chain.j1 kq l0 x1_1 x5_1 x6_1 x16_4 = some r) ∧ Aside0 (kq ≤ k1) ∧ Aside0 (Kd.S (Kd.slice 41 k41) 24 wc w.heap.size (fun _ => True) u5 x5_1) ∧ Aside0 (Below w.heap.size w wc))
   case first =>
    have H := HC5.out;clear HC5;by_cases c6 : x6_1 < (l0.length : Int)
    ·rw [if_pos c6] at H;have c6b0 : decide (x6_1 < (l0.length : Int)) = true := decide_eq_true c6
     clear c6;(first | rw [c6b0] | (simp only [i64_w, i32_w]; rw [c6b0]) | skip)
     have H' := Am H
     clear H;go_wp2
     go_meet
     case rel => exact ⟨_, (decide (x6_1 < 20)), zG, H', ⟨by have := HK1.out; first | omega | exact Nat.le_refl _⟩, ⟨by (with_reducible repeat (first | apply Kd.S_alloc | apply Kd.S_drewN | apply Kd.S_drew)); exact HO_5.out⟩, ⟨(zB HB)⟩⟩
    ·rw [if_neg c6] at H;have c6b0 : decide (x6_1 < (l0.length : Int)) = false := decide_eq_false c6
     clear c6;(first | rw [c6b0] | (simp only [i64_w, i32_w]; rw [c6b0]) | skip)
     have H' := Am H
     clear H;go_wp2
     go_meet
     case rel => exact ⟨_, (false), zG, H', ⟨by have := HK1.out; first | omega | exact Nat.le_refl _⟩, ⟨by (with_reducible repeat (first | apply Kd.S_alloc | apply Kd.S_drewN | apply Kd.S_drew)); exact HO_5.out⟩, ⟨(zB HB)⟩⟩
   case rest =>
    clear HC5;(try clear c2);(try clear p2);(try clear c6);(try clear c6b0);(try clear p2);obtain ⟨kq, x16_4, rfl, HA, HJ4, HO_5, HB⟩ := hcut
    cases kq with
    | zero => exact absurd HA.out (by simp [epitomeref04_Chain.j1])
    | succ kj4 =>
     have H := HA.out;clear HA;simp only [epitomeref04_Chain.j1] at H
     by_cases c7 : x16_4 = true
     ·subst c7
      have H1 : (if 0 ≤ x6_1 then (if x6_1 < (l0.length : Int) then ((epitomeref04_Fit.f kj4 (rd_L3 l0 x6_1) x1_1).bind fun t105 => (if x5_1.length < 5864062014805 then ((epitomeref04_Out.f kj4 t105).bind fun t111 => (epitomeref04_Chain.l0 kj4 l0 t111 (x5_1 ++ [t105]) (wrap64 (x6_1 + 1)))) else (none))) else (none)) else (none)) = some r := by rw [if_pos rfl] at H; exact H
      clear H;have H := H1
      clear H1;by_cases c8 : 0 ≤ x6_1
      ·rw [if_pos c8] at H;have c8b0 : decide (0 ≤ x6_1) = true := decide_eq_true c8
       clear c8;by_cases c9 : x6_1 < (l0.length : Int)
       ·rw [if_pos c9] at H;have c9b0 : decide (x6_1 < (l0.length : Int)) = true := decide_eq_true c9
        clear c9;replace H := Option.bind_eq_some_iff.mp H;obtain ⟨t105, A100, H⟩ := H;have A10 := Am A100;clear A100;by_cases c11 : x5_1.length < 5864062014805
        ·rw [if_pos c11] at H;have LMc11 := Am c11;clear c11;obtain ⟨y108, hy108⟩ : ∃ y_ : List (List (S41)), y_ = (x5_1 ++ [t105]) := ⟨_, rfl⟩
         replace H : ((epitomeref04_Out.f kj4 t105).bind fun t111 => (epitomeref04_Chain.l0 kj4 l0 t111 y108 (wrap64 (x6_1 + 1)))) = some r := by first | (rw [hy108]; with_reducible exact H) | (have H2_ := (Option.bind_some _ _).symm.trans H; rw [hy108]; with_reducible exact H2_) | (have H2_ := (Option.bind_some _ _).symm.trans H; with_reducible exact H2_) | with_reducible exact H | (rw [hy108]; exact H) | exact H
         have Ny108 := Am hy108;clear hy108;replace H := Option.bind_eq_some_iff.mp H;obtain ⟨t111, A120, H⟩ := H;replace H : (epitomeref04_Chain.l0 kj4 l0 t111 y108 (wrap64 (x6_1 + 1))) = some r := H
         have A12 := Am A120;clear A120;have H' := Am H
         clear H;have p104 : 0 ≤ (x6_1 : Int) := of_decide_eq_true (by assumption)
         have q104 : x6_1 < (l0.length : Int) := of_decide_eq_true (by assumption)
         obtain ⟨ad104, A104_0, c104_0, e104, hx104_0, hl104_0, hi104_0⟩ := at_L3 HR0.out x6_1 p104 q104
         cases e104
         replace hx104_0 := (HB.out.cell (World.block_lt_of_cell? w _ hx104_0)).trans hx104_0
         have HR104_0 := Am hi104_0;have HC104_0 := Am hl104_0;clear hi104_0 hl104_0;replace p104 := eq_true p104;replace q104 := eq_true q104;go_wp2_with (first | ((with_reducible refine gate_callee (f := 27) rfl ?_); refine goesL_ (some 24) rfl rfl Tryd.func27 (by kernel_rfl) rfl #[.slice A104_0 (rd_L3 l0 x6_1).length c104_0, .int .i64 x1_1] rfl zE ?_; (with_reducible refine (epitomeref04_Fit.calls kj4 _ _ (rd_L3 l0 x6_1) x1_1 t105 _ ?side1 ?side2 A10.out).mono ?_); (case side1 => exact zI (C_below HR104_0.out HB.out)); (case side2 => exact HC104_0.out); rintro e w13 ⟨v106, rfl, ho0, hb⟩; refine ⟨_, rfl, ?_⟩; replace HO_5 := Am (Kd.S_elder' (by (with_reducible repeat (first | apply Kd.S_alloc | apply Kd.S_drewN | apply Kd.S_drew)); exact HO_5.out) (R_base ho0) hb);have HO107 := Am (R_lower ho0 (below_size (zB HB)));replace HB := Am (below_step (zB HB) hb); (try clear hb); (try clear ho0); obtain ⟨Ao15, co15, eo15⟩ := R_slice HO107.out; subst eo15) | ((with_reducible refine gate_builtin (b := .append) (xs := #[.tmp 25, .tmp 27]) rfl ?_); at_builtin; refine Kd.S_append (Kd.slice 41 k41) (w0 := w) w.heap.size rfl (.tmp 25) (.tmp 27) 22 24 (.slice none 0 0) 24 rfl Tryd.underlying22 info24 rfl (by decide) (by omega) u5 x5_1 t105 [.slice Ao15 t105.length co15] (fun _ => True) (fun k_ => some k_ = (.slice Ao15 t105.length co15 : Value).ownBlock) rfl rfl ?aP (fun k_ hk_ => ((R_mono (ok' := fun k_ => ((fun _ => True)) k_ ∧ some k_ ≠ (u5 : Value).ownBlock) (R_apart' (HO107.out) (Kd.S_typed HO_5.out) (by decide)) (fun k_ hk => ⟨trivial, hk.2⟩))).1 k_ hk_.symm) ?aF ?aO ?aB ?aS ?aL ?_; (case aP => exact Kd.M_row (R_mono (R_tight rfl (R_mono (ok' := fun k_ => ((fun _ => True)) k_ ∧ some k_ ≠ (u5 : Value).ownBlock) (R_apart' (HO107.out) (Kd.S_typed HO_5.out) (by decide)) (fun k_ hk => ⟨trivial, hk.2⟩))) (fun _ h_ => h_))); (case aB => exact (zB HB)); (case aF => exact (fun _ _ => trivial)); (case aO => exact (by (with_reducible repeat (first | apply Kd.S_alloc | apply Kd.S_drewN | apply Kd.S_drew)); exact Kd.S_mono HO_5.out (fun k_ hk => ⟨trivial, fun e_ => hk.2 e_⟩))); (case aS => exact (below_size (zB HB))); (case aL => have := LMc11.out; omega); intro v109 w14 ho hb hg hat; have nx_ := Am (R_grown (R_tight rfl HO107.out) hg (fun k_ hk_ => (((R_mono (ok' := fun k_ => ((fun _ => True)) k_ ∧ some k_ ≠ (u5 : Value).ownBlock) (R_apart' (HO107.out) (Kd.S_typed HO_5.out) (by decide)) (fun k_ hk => ⟨trivial, hk.2⟩))).1 k_ hk_.symm).2)); rw [← Ny108.out] at ho; replace HB := Am (hb);have HO110 := Am (ho);clear HO_5 HO107; have HO107 := nx_; clear nx_; clear ho hb hg hat) | ((with_reducible refine gate_callee (f := 48) rfl ?_); refine goesL_ (some 30) rfl rfl Tryd.func48 (by kernel_rfl) rfl #[.slice Ao15 t105.length co15] rfl zE ?_; (with_reducible refine (epitomeref04_Out.calls kj4 _ _ t105 t111 _ ?side1 ?side2 A12.out).mono ?_); (case side1 => exact zI (R_reads' HO107.out).2.2); (case side2 => exact (R_reads' HO107.out).2.1); rintro e w16 ⟨rfl, hb⟩; refine ⟨_, rfl, ?_⟩; replace HO110 := Am (Kd.S_below (by (with_reducible repeat (first | apply Kd.S_alloc | apply Kd.S_drewN | apply Kd.S_drew)); exact HO110.out) hb);replace HB := Am (below_step (zB HB) hb); (try clear hb)))
         go_roundg kj4
         case measure => have := HK1.out; have := HJ4.out; omega
         case rel => exact ⟨(t111), (y108), (wrap64 (x6_1 + 1)), zG, zG, H', ⟨by have := HK1.out; have := HJ4.out; omega⟩, ⟨by (with_reducible repeat (first | apply Kd.S_alloc | apply Kd.S_drewN | apply Kd.S_drew)); exact HO110.out⟩, ⟨(zB HB)⟩⟩
        ·rw [if_neg c11] at H;exact absurd H (by simp)
       ·rw [if_neg c9] at H;exact absurd H (by simp)
      ·rw [if_neg c8] at H;exact absurd H (by simp)
     ·replace c7 := Bool.eq_false_iff.mpr c7
      subst c7
      have H1 : (some x5_1) = some r := by rw [if_neg (show ¬ (false = true) by decide)] at H; exact H
      clear H;have H := H1
      clear H1;obtain rfl := Option.some.inj H;go_wp2
      go_ret
      exact ⟨_, zF, by (with_reducible repeat (first | apply Kd.S_alloc | apply Kd.S_drewN | apply Kd.S_drew)); exact HO_5.out, (zB HB)⟩
end Go.Proofs.YthhgobiaecehbaaDoor.F
end
section
namespace Go.Proofs.YthhgobiaecehbaaDoor.F
open Go.RowKit Go.Proofs.YthhgobiaecehbaaDoorW.PrintWords Go.Proofs.YthhgobiaecehbaaDoorW.PrintLast Go.Proofs.YthhgobiaecehbaaDoorW.PrintMore
attribute [local go_sem] max2_int min2_int max_two min_two max_three min_three max_four min_four cell_setCell_isSome
set_option linter.unusedVariables false
set_option linter.unusedSimpArgs false
open Kd
attribute [local go_sem high] eqA41
def epitomeref04_Same.l0 : Nat → List (S41) → List (S41) → Int → Option (Bool)
  | 0, _, _, _ => none
  | k + 1, x0, x1, x5 => if x5 < (x0.length : Int) then (if 0 ≤ x5 then (if x5 < (x1.length : Int) then (if (!(((rd_T41 x0 x5).f0) == ((rd_T41 x1 x5).f0)) || (!(((rd_T41 x0 x5).f1) == ((rd_T41 x1 x5).f1)) || (!((((rd_T41 x0 x5).f2).toList) == (((rd_T41 x1 x5).f2).toList))))) = true then (some false) else (epitomeref04_Same.l0 k x0 x1 (wrap64 (x5 + 1)))) else (none)) else (none)) else (some true)
def epitomeref04_Same.f (k : Nat) (l0 : List (S41)) (l1 : List (S41)) : Option (Bool) := if (l0.length : Int) = (l1.length : Int) then (epitomeref04_Same.l0 k l0 l1 0) else (some false)
theorem epitomeref04_Same.mono_l : ∀ k, (∀ y0 y1 y2, LeO (epitomeref04_Same.l0 k y0 y1 y2) (epitomeref04_Same.l0 (k + 1) y0 y1 y2))
  | 0 => fun _ _ _ r h => by simp [epitomeref04_Same.l0] at h
  | k + 1 => by
    have ih0 := epitomeref04_Same.mono_l k
    · intro y0 y1 y2
      unfold epitomeref04_Same.l0
      repeat' first
      | (with_reducible exact ih0 _ _ _)
      | (with_reducible exact LeO.refl _)
      | (with_reducible exact LeO.none _)
      | (with_reducible refine LeO.ite ?_ ?_)
      | (with_reducible refine LeO.bind ?_ (fun _ => ?_))
      | exact ih0 _ _ _
      | exact LeO.none _
      | refine LeO.ite ?_ ?_
      | refine LeO.bind ?_ (fun _ => ?_)
set_option maxHeartbeats 40000000 in
set_option maxRecDepth 100000 in
theorem epitomeref04_Same.calls (k : Nat) (A0 : Option Addr) (c0 : Nat) (l0 : List (S41)) (A1 : Option Addr) (c1 : Nat) (l1 : List (S41)) (r : Bool) (w : World) (hr0 : Kd.C k41 w A0 l0.length l0) (hc0 : l0.length ≤ c0) (hr1 : Kd.C k41 w A1 l1.length l1) (hc1 : l1.length ≤ c1) (h : epitomeref04_Same.f k l0 l1 = some r) :
  Calls Tryd.prog 21 #[.slice A0 l0.length c0, .slice A1 l1.length c1] w fun e w' => e = .returned (.bool r) ∧ Drawn0 w w' := by
 have hu41 := Tryd.underlying41
 have HR0 := Am hr0;have HC0 := Am hc0;clear hr0 hc0;have HR1 := Am hr1;have HC1 := Am hc1;clear hr1 hc1;have H : (if (l0.length : Int) = (l1.length : Int) then (epitomeref04_Same.l0 k l0 l1 0) else (some false)) = some r := h
 clear h;by_cases c3 : (l0.length : Int) = (l1.length : Int)
 ·rw [if_pos c3] at H;have c3b0 : ((l0.length : Int) == (l1.length : Int)) = true := beq_iff_eq.mpr c3
  have c3b1 : ((l0.length : Int) != (l1.length : Int)) = false := bne_eq_false_iff_eq.mpr c3
  have c3b2 : (l0.length == l1.length) = true := by first | simpa using c3 | (simp at c3 ⊢; omega)
  clear c3;have H' := Am H
  clear H;go_enter Tryd.func21, Tryd.ntmps21
  go_wp2
  repeat (go_quiet (fail); try go_wp2)
  go_loopg [5] k (fun kq v5 w' => ∃ (x5_1 : Int), v5 = .int .i64 x5_1 ∧ Aside0 (epitomeref04_Same.l0 kq l0 l1 x5_1 = some r) ∧ Aside0 (kq ≤ k) ∧ Drawn0 w w')
  case atStart => exact ⟨(0), zG, H', ⟨Nat.le_refl _⟩, zD⟩
  case round =>
   clear H';(try clear c1);(try clear c2);(try clear p2);(try clear c3);(try clear c3b0);(try clear c3b1);(try clear c3b2);obtain ⟨x5_1, rfl, HA, HK1, ⟨m1, rfl⟩⟩ := hrel
   cases gk with
   | zero => exact absurd HA.out (by simp [epitomeref04_Same.l0])
   | succ k1 =>
    have H := HA.out;clear HA;simp only [epitomeref04_Same.l0] at H
    by_cases c4 : x5_1 < (l0.length : Int)
    ·rw [if_pos c4] at H;have c4b0 : decide (x5_1 < (l0.length : Int)) = true := decide_eq_true c4
     clear c4;by_cases c5 : 0 ≤ x5_1
     ·rw [if_pos c5] at H;have c5b0 : decide (0 ≤ x5_1) = true := decide_eq_true c5
      clear c5;by_cases c6 : x5_1 < (l1.length : Int)
      ·rw [if_pos c6] at H;have c6b0 : decide (x5_1 < (l1.length : Int)) = true := decide_eq_true c6
       clear c6;by_cases c7 : (!(((rd_T41 l0 x5_1).f0) == ((rd_T41 l1 x5_1).f0)) || (!(((rd_T41 l0 x5_1).f1) == ((rd_T41 l1 x5_1).f1)) || (!((((rd_T41 l0 x5_1).f2).toList) == (((rd_T41 l1 x5_1).f2).toList))))) = true
       ·rw [if_pos c7] at H;have c7b0 : (!(((rd_T41 l0 x5_1).f0) == ((rd_T41 l1 x5_1).f0)) || (!(((rd_T41 l0 x5_1).f1) == ((rd_T41 l1 x5_1).f1)) || (!((((rd_T41 l0 x5_1).f2).toList) == (((rd_T41 l1 x5_1).f2).toList))))) = true := c7
        clear c7;obtain rfl := Option.some.inj H;have p101 : 0 ≤ (x5_1 : Int) := of_decide_eq_true (by assumption)
        have q101 : x5_1 < (l0.length : Int) := of_decide_eq_true (by assumption)
        obtain ⟨ad101, e101, hx101_0, hx101_1, hx101_2⟩ := at_T41 HR0.out x5_1 p101 q101
        cases e101
        replace p101 := eq_true p101;replace q101 := eq_true q101;have p102 : 0 ≤ (x5_1 : Int) := of_decide_eq_true (by assumption)
        have q102 : x5_1 < (l1.length : Int) := of_decide_eq_true (by assumption)
        obtain ⟨ad102, e102, hx102_0, hx102_1, hx102_2⟩ := at_T41 HR1.out x5_1 p102 q102
        cases e102
        replace p102 := eq_true p102;replace q102 := eq_true q102;go_wp2
        repeat (go_quiet (fail); try go_wp2)
        go_ret
        exact ⟨zG, zD⟩
       ·rw [if_neg c7] at H;have c7b0 : (!(((rd_T41 l0 x5_1).f0) == ((rd_T41 l1 x5_1).f0)) || (!(((rd_T41 l0 x5_1).f1) == ((rd_T41 l1 x5_1).f1)) || (!((((rd_T41 l0 x5_1).f2).toList) == (((rd_T41 l1 x5_1).f2).toList))))) = false := by simpa using c7
        clear c7;have H' := Am H
        clear H;have p101 : 0 ≤ (x5_1 : Int) := of_decide_eq_true (by assumption)
        have q101 : x5_1 < (l0.length : Int) := of_decide_eq_true (by assumption)
        obtain ⟨ad101, e101, hx101_0, hx101_1, hx101_2⟩ := at_T41 HR0.out x5_1 p101 q101
        cases e101
        replace p101 := eq_true p101;replace q101 := eq_true q101;have p102 : 0 ≤ (x5_1 : Int) := of_decide_eq_true (by assumption)
        have q102 : x5_1 < (l1.length : Int) := of_decide_eq_true (by assumption)
        obtain ⟨ad102, e102, hx102_0, hx102_1, hx102_2⟩ := at_T41 HR1.out x5_1 p102 q102
        cases e102
        replace p102 := eq_true p102;replace q102 := eq_true q102;go_wp2
        repeat (go_quiet (fail); try go_wp2)
        go_roundg k1
        case measure => have := HK1.out; omega
        case rel => exact ⟨(wrap64 (x5_1 + 1)), zG, H', ⟨by have := HK1.out; omega⟩, zD⟩
      ·rw [if_neg c6] at H;exact absurd H (by simp)
     ·rw [if_neg c5] at H;exact absurd H (by simp)
    ·rw [if_neg c4] at H;have c4b0 : decide (x5_1 < (l0.length : Int)) = false := decide_eq_false c4
     clear c4;obtain rfl := Option.some.inj H;go_wp2
     repeat (go_quiet (fail); try go_wp2)
     go_ret
     exact ⟨zG, zD⟩
 ·rw [if_neg c3] at H;have c3b0 : ((l0.length : Int) == (l1.length : Int)) = false := beq_eq_false_iff_ne.mpr c3
  have c3b1 : ((l0.length : Int) != (l1.length : Int)) = true := bne_iff_ne.mpr c3
  have c3b2 : (l0.length == l1.length) = false := by first | simpa using c3 | (simp at c3 ⊢; omega)
  obtain rfl := Option.some.inj H;go_enter Tryd.func21, Tryd.ntmps21
  go_wp2
  repeat (go_quiet (fail); try go_wp2)
  go_ret
  exact ⟨zG, zD⟩
end Go.Proofs.YthhgobiaecehbaaDoor.F
end
section
namespace Go.Proofs.YthhgobiaecehbaaDoor.F
open Go.RowKit Go.Proofs.YthhgobiaecehbaaDoorW.PrintWords Go.Proofs.YthhgobiaecehbaaDoorW.PrintLast Go.Proofs.YthhgobiaecehbaaDoorW.PrintMore
attribute [local go_sem] max2_int min2_int max_two min_two max_three min_three max_four min_four cell_setCell_isSome
set_option linter.unusedVariables false
set_option linter.unusedSimpArgs false
open Kd
def epitomeref03_In.f (a0_0 : Int) (a0_1 : Int) (a0_2 : ByteArray) : Option (Int) := if a0_0 = 1 then (some a0_1) else (if a0_0 = 3 then (some a0_1) else (some 0))
set_option maxHeartbeats 40000000 in
set_option maxRecDepth 100000 in
theorem epitomeref03_In.calls (a0_0 : Int) (a0_1 : Int) (a0_2 : ByteArray) (r : Int) (w : World) (h : epitomeref03_In.f a0_0 a0_1 a0_2 = some r) :
  Calls Tryd.prog 75 #[.agg #[.int .i64 a0_0, .int .i64 a0_1, .string a0_2]] w fun e w' => e = .returned (.int .i64 r) ∧ Below w.heap.size w w' := by
 have hu41 := Tryd.underlying41
 have HB := Am (Below.refl w.heap.size w)
 have H : (if a0_0 = 1 then (some a0_1) else (if a0_0 = 3 then (some a0_1) else (some 0))) = some r := h
 clear h;by_cases c2 : a0_0 = 1
 ·rw [if_pos c2] at H;have c2b0 : (a0_0 == 1) = true := beq_iff_eq.mpr c2
  have c2b1 : (a0_0 != 1) = false := bne_eq_false_iff_eq.mpr c2
  clear c2;obtain rfl := Option.some.inj H;go_enter Tryd.func75, Tryd.ntmps75
  go_wp2_with (first | ((with_reducible refine gate_dst (N := 1) rfl ?_); refine box_event ?hg (N := 1) ?hd (cs := #[.int .i64 a0_0, .int .i64 a0_1, .string a0_2]) (t := 41) ?hr ?_; (case hd => rfl); (case hg => rfl); (case hr => first | (go_simp; done) | (go_simp; rfl)); intro gb101 hg w3 hbox hb; have BK101 := Am (hbox);have GW101 := Am (zO (w := w) HB hg);have GE101 := Am (zO (w := w) HB hg);replace HB := Am (below_step (zB HB) hb); clear hb hbox hg; obtain ⟨hcz4_0, hcz4_1, hcz4_2, hfz4_0, hfz4_1, hfz4_2⟩ := zc3 BK101))
  go_ret
  exact ⟨zF, (zB HB)⟩
 ·rw [if_neg c2] at H;have c2b0 : (a0_0 == 1) = false := beq_eq_false_iff_ne.mpr c2
  have c2b1 : (a0_0 != 1) = true := bne_iff_ne.mpr c2
  by_cases c5 : a0_0 = 3
  ·rw [if_pos c5] at H;have c5b0 : (a0_0 == 3) = true := beq_iff_eq.mpr c5
   have c5b1 : (a0_0 != 3) = false := bne_eq_false_iff_eq.mpr c5
   clear c5;obtain rfl := Option.some.inj H;go_enter Tryd.func75, Tryd.ntmps75
   go_wp2_with (first | ((with_reducible refine gate_dst (N := 1) rfl ?_); refine box_event ?hg (N := 1) ?hd (cs := #[.int .i64 a0_0, .int .i64 a0_1, .string a0_2]) (t := 41) ?hr ?_; (case hd => rfl); (case hg => rfl); (case hr => first | (go_simp; done) | (go_simp; rfl)); intro gb101 hg w6 hbox hb; have BK101 := Am (hbox);have GW101 := Am (zO (w := w) HB hg);have GE101 := Am (zO (w := w) HB hg);replace HB := Am (below_step (zB HB) hb); clear hb hbox hg; obtain ⟨hcz7_0, hcz7_1, hcz7_2, hfz7_0, hfz7_1, hfz7_2⟩ := zc3 BK101))
   go_ret
   exact ⟨zF, (zB HB)⟩
  ·rw [if_neg c5] at H;have c5b0 : (a0_0 == 3) = false := beq_eq_false_iff_ne.mpr c5
   have c5b1 : (a0_0 != 3) = true := bne_iff_ne.mpr c5
   obtain rfl := Option.some.inj H;go_enter Tryd.func75, Tryd.ntmps75
   go_wp2_with (first | ((with_reducible refine gate_dst (N := 1) rfl ?_); refine box_event ?hg (N := 1) ?hd (cs := #[.int .i64 a0_0, .int .i64 a0_1, .string a0_2]) (t := 41) ?hr ?_; (case hd => rfl); (case hg => rfl); (case hr => first | (go_simp; done) | (go_simp; rfl)); intro gb101 hg w8 hbox hb; have BK101 := Am (hbox);have GW101 := Am (zO (w := w) HB hg);have GE101 := Am (zO (w := w) HB hg);replace HB := Am (below_step (zB HB) hb); clear hb hbox hg; obtain ⟨hcz9_0, hcz9_1, hcz9_2, hfz9_0, hfz9_1, hfz9_2⟩ := zc3 BK101))
   go_ret
   exact ⟨zF, (zB HB)⟩
end Go.Proofs.YthhgobiaecehbaaDoor.F
end
section
namespace Go.Proofs.YthhgobiaecehbaaDoor.F
open Go.RowKit Go.Proofs.YthhgobiaecehbaaDoorW.PrintWords Go.Proofs.YthhgobiaecehbaaDoorW.PrintLast Go.Proofs.YthhgobiaecehbaaDoorW.PrintMore
attribute [local go_sem] max2_int min2_int max_two min_two max_three min_three max_four min_four cell_setCell_isSome
set_option linter.unusedVariables false
set_option linter.unusedSimpArgs false
open Kd
def epitomeref04_In.l0 : Nat → List (S41) → Int → Int → Option (Int)
  | 0, _, _, _ => none
  | k + 1, x0, x3, x4 => if x4 < (x0.length : Int) then (if 0 ≤ x4 then ((epitomeref03_In.f ((rd_T41 x0 x4).f0) ((rd_T41 x0 x4).f1) ((rd_T41 x0 x4).f2)).bind fun t102 => (epitomeref04_In.l0 k x0 (wrap64 (x3 + t102)) (wrap64 (x4 + 1)))) else (none)) else (some x3)
def epitomeref04_In.f (k : Nat) (l0 : List (S41)) : Option (Int) := epitomeref04_In.l0 k l0 0 0
theorem epitomeref04_In.mono_l : ∀ k, (∀ y0 y1 y2, LeO (epitomeref04_In.l0 k y0 y1 y2) (epitomeref04_In.l0 (k + 1) y0 y1 y2))
  | 0 => fun _ _ _ r h => by simp [epitomeref04_In.l0] at h
  | k + 1 => by
    have ih0 := epitomeref04_In.mono_l k
    · intro y0 y1 y2
      unfold epitomeref04_In.l0
      repeat' first
      | (with_reducible exact ih0 _ _ _)
      | (with_reducible exact LeO.refl _)
      | (with_reducible exact LeO.none _)
      | (with_reducible refine LeO.ite ?_ ?_)
      | (with_reducible refine LeO.bind ?_ (fun _ => ?_))
      | exact ih0 _ _ _
      | exact LeO.none _
      | refine LeO.ite ?_ ?_
      | refine LeO.bind ?_ (fun _ => ?_)
theorem epitomeref04_In.mono : ∀ a0 k, LeO (epitomeref04_In.f k a0) (epitomeref04_In.f (k + 1) a0) := by
  intro a0 k
  have ih0 := epitomeref04_In.mono_l k
  unfold epitomeref04_In.f
  repeat' first
      | (with_reducible exact ih0 _ _ _)
      | (with_reducible exact LeO.refl _)
      | (with_reducible exact LeO.none _)
      | (with_reducible refine LeO.ite ?_ ?_)
      | (with_reducible refine LeO.bind ?_ (fun _ => ?_))
      | exact ih0 _ _ _
      | exact LeO.none _
      | refine LeO.ite ?_ ?_
      | refine LeO.bind ?_ (fun _ => ?_)
set_option maxHeartbeats 40000000 in
set_option maxRecDepth 100000 in
theorem epitomeref04_In.calls (k : Nat) (A0 : Option Addr) (c0 : Nat) (l0 : List (S41)) (r : Int) (w : World) (hr0 : Kd.C k41 w A0 l0.length l0) (hc0 : l0.length ≤ c0) (h : epitomeref04_In.f k l0 = some r) :
  Calls Tryd.prog 47 #[.slice A0 l0.length c0] w fun e w' => e = .returned (.int .i64 r) ∧ Below w.heap.size w w' := by
 have hu41 := Tryd.underlying41
 have HR0 := Am hr0;have HC0 := Am hc0;clear hr0 hc0;have HB := Am (Below.refl w.heap.size w)
 have H : (epitomeref04_In.l0 k l0 0 0) = some r := h
 clear h;have H' := Am H
 clear H;go_enter Tryd.func47, Tryd.ntmps47
 go_wp2
 go_loopg [3, 4] k (fun kq v3 v4 w' => ∃ (x3_1 : Int) (x4_1 : Int), v3 = .int .i64 x3_1 ∧ v4 = .int .i64 x4_1 ∧ Aside0 (epitomeref04_In.l0 kq l0 x3_1 x4_1 = some r) ∧ Aside0 (kq ≤ k) ∧ Aside0 (Below w.heap.size w w'))
 case atStart => exact ⟨(0), (0), zG, zG, H', ⟨Nat.le_refl _⟩, ⟨(zB HB)⟩⟩
 case round =>
  clear H';obtain ⟨x3_1, x4_1, rfl, rfl, HA, HK1, HB⟩ := hrel
  cases gk with
  | zero => exact absurd HA.out (by simp [epitomeref04_In.l0])
  | succ k1 =>
   have H := HA.out;clear HA;simp only [epitomeref04_In.l0] at H
   by_cases c2 : x4_1 < (l0.length : Int)
   ·rw [if_pos c2] at H;have c2b0 : decide (x4_1 < (l0.length : Int)) = true := decide_eq_true c2
    clear c2;by_cases c3 : 0 ≤ x4_1
    ·rw [if_pos c3] at H;have c3b0 : decide (0 ≤ x4_1) = true := decide_eq_true c3
     clear c3;replace H := Option.bind_eq_some_iff.mp H;obtain ⟨t102, A40, H⟩ := H;replace H : (epitomeref04_In.l0 k1 l0 (wrap64 (x3_1 + t102)) (wrap64 (x4_1 + 1))) = some r := H
     have A4 := Am A40;clear A40;have H' := Am H
     clear H;have p101 : 0 ≤ (x4_1 : Int) := of_decide_eq_true (by assumption)
     have q101 : x4_1 < (l0.length : Int) := of_decide_eq_true (by assumption)
     obtain ⟨ad101, e101, hx101_0, hx101_1, hx101_2⟩ := at_T41 HR0.out x4_1 p101 q101
     cases e101
     replace hx101_0 := (HB.out.cell (World.block_lt_of_cell? w _ hx101_0)).trans hx101_0
     replace hx101_1 := (HB.out.cell (World.block_lt_of_cell? w _ hx101_1)).trans hx101_1
     replace hx101_2 := (HB.out.cell (World.block_lt_of_cell? w _ hx101_2)).trans hx101_2
     replace p101 := eq_true p101;replace q101 := eq_true q101;go_wp2_with (first | ((with_reducible refine gate_callee (f := 75) rfl ?_); refine goesL_ (some 16) rfl rfl Tryd.func75 (by kernel_rfl) rfl #[.agg #[.int .i64 ((rd_T41 l0 x4_1).f0), .int .i64 ((rd_T41 l0 x4_1).f1), .string ((rd_T41 l0 x4_1).f2)]] rfl zE ?_; (with_reducible refine (epitomeref03_In.calls ((rd_T41 l0 x4_1).f0) ((rd_T41 l0 x4_1).f1) ((rd_T41 l0 x4_1).f2) t102 _ A4.out).mono ?_); rintro e w5 ⟨rfl, hb⟩; refine ⟨_, rfl, ?_⟩; replace HB := Am (below_step (zB HB) hb); (try clear hb)))
     go_roundg k1
     case measure => have := HK1.out; omega
     case rel => exact ⟨(wrap64 (x3_1 + t102)), (wrap64 (x4_1 + 1)), zG, zG, H', ⟨by have := HK1.out; omega⟩, ⟨(zB HB)⟩⟩
    ·rw [if_neg c3] at H;exact absurd H (by simp)
   ·rw [if_neg c2] at H;have c2b0 : decide (x4_1 < (l0.length : Int)) = false := decide_eq_false c2
    clear c2;obtain rfl := Option.some.inj H;go_wp2
    go_ret
    exact ⟨zF, (zB HB)⟩
end Go.Proofs.YthhgobiaecehbaaDoor.F
end
section
namespace Go.Proofs.YthhgobiaecehbaaDoor.F
open Go.RowKit Go.Proofs.YthhgobiaecehbaaDoorW.PrintWords Go.Proofs.YthhgobiaecehbaaDoorW.PrintLast Go.Proofs.YthhgobiaecehbaaDoorW.PrintMore
attribute [local go_sem] max2_int min2_int max_two min_two max_three min_three max_four min_four cell_setCell_isSome
set_option linter.unusedVariables false
set_option linter.unusedSimpArgs false
open Kd
def epitomeref04_Keep.j0 : Nat → Int → Bool → Option ((List (S41)) × Int)
  | 0, _, _ => none
  | k + 1, x0, x9 => if x9 = true then (some (([] : List (S41)), 2)) else (if x0 = 0 then (some (([] : List (S41)), 0)) else (some ((([(⟨1, x0, (⟨#[]⟩ : ByteArray)⟩ : S41)] : List (S41))), 0)))
def epitomeref04_Keep.f (k : Nat) (a0 : Int) : Option ((List (S41)) × Int) := if a0 < 0 then (epitomeref04_Keep.j0 k a0 true) else (epitomeref04_Keep.j0 k a0 (decide (a0 > 1048576)))
theorem epitomeref04_Keep.mono_l : ∀ k, (∀ y0 y1, LeO (epitomeref04_Keep.j0 k y0 y1) (epitomeref04_Keep.j0 (k + 1) y0 y1))
  | 0 => fun _ _ r h => by simp [epitomeref04_Keep.j0] at h
  | k + 1 => by
    have ih0 := epitomeref04_Keep.mono_l k
    · intro y0 y1
      unfold epitomeref04_Keep.j0
      repeat' first
      | (with_reducible exact ih0 _ _)
      | (with_reducible exact LeO.refl _)
      | (with_reducible exact LeO.none _)
      | (with_reducible refine LeO.ite ?_ ?_)
      | (with_reducible refine LeO.bind ?_ (fun _ => ?_))
      | exact ih0 _ _
      | exact LeO.none _
      | refine LeO.ite ?_ ?_
      | refine LeO.bind ?_ (fun _ => ?_)
theorem epitomeref04_Keep.mono : ∀ a0 k, LeO (epitomeref04_Keep.f k a0) (epitomeref04_Keep.f (k + 1) a0) := by
  intro a0 k
  have ih0 := epitomeref04_Keep.mono_l k
  unfold epitomeref04_Keep.f
  repeat' first
      | (with_reducible exact ih0 _ _)
      | (with_reducible exact LeO.refl _)
      | (with_reducible exact LeO.none _)
      | (with_reducible refine LeO.ite ?_ ?_)
      | (with_reducible refine LeO.bind ?_ (fun _ => ?_))
      | exact ih0 _ _
      | exact LeO.none _
      | refine LeO.ite ?_ ?_
      | refine LeO.bind ?_ (fun _ => ?_)
set_option maxHeartbeats 40000000 in
set_option maxRecDepth 100000 in
theorem epitomeref04_Keep.calls (k : Nat) (a0 : Int) (r1 : List (S41)) (r2 : Int) (w : World) (h : epitomeref04_Keep.f k a0 = some (r1, r2)) :
  Calls Tryd.prog 42 #[.int .i64 a0] w fun e w' => ∃ v0_ : Value, e = .returned (.tuple #[v0_, .int .i64 r2]) ∧ Kd.R k41 41 w' w.heap.size (fun _ => True) v0_ r1 ∧ Below w.heap.size w w' := by
 have hu41 := Tryd.underlying41
 have HB := Am (Below.refl w.heap.size w)
 have H : (if a0 < 0 then (epitomeref04_Keep.j0 k a0 true) else (epitomeref04_Keep.j0 k a0 (decide (a0 > 1048576)))) = some (r1, r2) := h
 clear h;have HC2 := Am H;clear H;go_enter Tryd.func42, Tryd.ntmps42
 go_upto_region 1 with (fail)
 go_cut [9] (fun v9 wc => ∃ (kq : Nat) (x9_1 : Bool), v9 = .bool x9_1 ∧ Aside0 (epitomeref04_Keep.j0 kq a0 x9_1 = some (r1, r2)) ∧ Aside0 (kq ≤ k) ∧ Aside0 (Below w.heap.size w wc))
 case first =>
  have H := HC2.out;clear HC2;by_cases c3 : a0 < 0
  ·rw [if_pos c3] at H;have c3b0 : decide (a0 < 0) = true := decide_eq_true c3
   clear c3;(first | rw [c3b0] | (simp only [i64_w, i32_w]; rw [c3b0]) | skip)
   have H' := Am H
   clear H;go_wp2
   go_meet
   case rel => exact ⟨_, (true), zG, H', ⟨by first | omega | exact Nat.le_refl _⟩, ⟨(zB HB)⟩⟩
  ·rw [if_neg c3] at H;have c3b0 : decide (a0 < 0) = false := decide_eq_false c3
   clear c3;(first | rw [c3b0] | (simp only [i64_w, i32_w]; rw [c3b0]) | skip)
   have H' := Am H
   clear H;go_wp2
   go_meet
   case rel => exact ⟨_, (decide (a0 > 1048576)), zG, H', ⟨by first | omega | exact Nat.le_refl _⟩, ⟨(zB HB)⟩⟩
 case rest =>
  clear HC2;(try clear p2);(try clear c3);(try clear c3b0);obtain ⟨kq, x9_1, rfl, HA, HJ1, HB⟩ := hcut
  cases kq with
  | zero => exact absurd HA.out (by simp [epitomeref04_Keep.j0])
  | succ kj1 =>
   have H := HA.out;clear HA;simp only [epitomeref04_Keep.j0] at H
   by_cases c4 : x9_1 = true
   ·subst c4
    have H1 : (some (([] : List (S41)), 2)) = some (r1, r2) := by rw [if_pos rfl] at H; exact H
    clear H;have H := H1
    clear H1;simp only [Option.some.injEq, Prod.mk.injEq] at H
    obtain ⟨rfl, rfl⟩ := H;go_wp2
    go_ret2
    exact ⟨_, zF, by first | exact R_nil _ _ _ _ _ | exact Kd.N_nil _ _ _ _ _ | exact Kd.V_nil _ _ _ _ _ | exact Kd.Q_nil _ _ _ _ _ | exact Kd.S_nil _ _ _ _ _, (zB HB)⟩
   ·replace c4 := Bool.eq_false_iff.mpr c4
    subst c4
    have H1 : (if a0 = 0 then (some (([] : List (S41)), 0)) else (some ((([(⟨1, a0, (⟨#[]⟩ : ByteArray)⟩ : S41)] : List (S41))), 0))) = some (r1, r2) := by rw [if_neg (show ¬ (false = true) by decide)] at H; exact H
    clear H;have H := H1
    clear H1;by_cases c5 : a0 = 0
    ·rw [if_pos c5] at H;have c5b0 : (a0 == 0) = true := beq_iff_eq.mpr c5
     have c5b1 : (a0 != 0) = false := bne_eq_false_iff_eq.mpr c5
     clear c5;simp only [Option.some.injEq, Prod.mk.injEq] at H
     obtain ⟨rfl, rfl⟩ := H;go_wp2
     go_ret2
     exact ⟨_, zF, by first | exact R_nil _ _ _ _ _ | exact Kd.N_nil _ _ _ _ _ | exact Kd.V_nil _ _ _ _ _ | exact Kd.Q_nil _ _ _ _ _ | exact Kd.S_nil _ _ _ _ _, (zB HB)⟩
    ·rw [if_neg c5] at H;have c5b0 : (a0 == 0) = false := beq_eq_false_iff_ne.mpr c5
     have c5b1 : (a0 != 0) = true := bne_iff_ne.mpr c5
     obtain ⟨y101, hy101⟩ : ∃ y_ : List (S41), y_ = (([(⟨1, a0, (⟨#[]⟩ : ByteArray)⟩ : S41)] : List (S41))) := ⟨_, rfl⟩
     replace H : (some (y101, 0)) = some (r1, r2) := by first | (rw [hy101]; with_reducible exact H) | (have H2_ := (Option.bind_some _ _).symm.trans H; rw [hy101]; with_reducible exact H2_) | (have H2_ := (Option.bind_some _ _).symm.trans H; with_reducible exact H2_) | with_reducible exact H | (rw [hy101]; exact H) | exact H
     have Ny101 := Am hy101;clear hy101;simp only [Option.some.injEq, Prod.mk.injEq] at H
     obtain ⟨rfl, rfl⟩ := H;go_wp2_with (first | ((with_reducible refine gate_dst (N := 14) rfl ?_); refine R_lit k41 _ 41 ?hg (N := 14) ?hd (xs := ([(⟨1, a0, (⟨#[]⟩ : ByteArray)⟩ : S41)] : List (S41))) (inner := [.int .i64 1, .int .i64 a0, .string (⟨#[]⟩ : ByteArray)]) (ok := fun _ => True) (okp := fun _ => True) ?hr ?hp (fun _ hk => hk) trivial (Below.refl _ _) (Nat.le_refl _) (by simp) ?_; (case hd => rfl); (case hg => rfl); (case hr => first | (go_simp; done) | (go_simp; rfl)); (case hp => exact (Reps.c3 (show Kd.M k41 _ _ _ (⟨1, a0, (⟨#[]⟩ : ByteArray)⟩ : S41) [.int .i64 1, .int .i64 a0, .string (⟨#[]⟩ : ByteArray)] from (k41_mkM _ _ _ (⟨1, a0, (⟨#[]⟩ : ByteArray)⟩ : S41) )) (Reps.none _ _))); intro v102 w6 ho7 hb hg_ hnew_; clear hg_ hnew_; (first | rw [← Ny101.out] at ho7 | (simp only [Int.reduceToNat] at ho7; rw [← Ny101.out] at ho7)); have HO103 := Am (R_lower ho7 (below_size (zB HB)));replace HB := Am (below_step (zB HB) hb); clear hb ho7))
     go_ret2
     exact ⟨_, zF, (zR HO103), (zB HB)⟩
end Go.Proofs.YthhgobiaecehbaaDoor.F
end
section
namespace Go.Proofs.YthhgobiaecehbaaDoor.F
open Go.RowKit Go.Proofs.YthhgobiaecehbaaDoorW.PrintWords Go.Proofs.YthhgobiaecehbaaDoorW.PrintLast Go.Proofs.YthhgobiaecehbaaDoorW.PrintMore
attribute [local go_sem] max2_int min2_int max_two min_two max_three min_three max_four min_four cell_setCell_isSome
set_option linter.unusedVariables false
set_option linter.unusedSimpArgs false
open Kd
def epitomeref01_Valid.f (k : Nat) (a0 : ByteArray) : Option (Bool) := (epitomeref01_Starts.f k a0).bind fun bt101 => (some bt101.2)
theorem epitomeref01_Valid.mono : ∀ a0 k, LeO (epitomeref01_Valid.f k a0) (epitomeref01_Valid.f (k + 1) a0) := by
  intro a0 k
  unfold epitomeref01_Valid.f
  repeat' first
      | (with_reducible exact epitomeref01_Starts.mono _ _)
      | (with_reducible exact LeO.refl _)
      | (with_reducible exact LeO.none _)
      | (with_reducible refine LeO.ite ?_ ?_)
      | (with_reducible refine LeO.bind ?_ (fun _ => ?_))
      | exact epitomeref01_Starts.mono _ _
      | exact LeO.none _
      | refine LeO.ite ?_ ?_
      | refine LeO.bind ?_ (fun _ => ?_)
set_option maxHeartbeats 40000000 in
set_option maxRecDepth 100000 in
theorem epitomeref01_Valid.calls (k : Nat) (a0 : ByteArray) (r : Bool) (w : World) (h : epitomeref01_Valid.f k a0 = some r) :
  Calls Tryd.prog 87 #[.string a0] w fun e w' => e = .returned (.bool r) ∧ Below w.heap.size w w' := by
 have HB := Am (Below.refl w.heap.size w)
 have H : ((epitomeref01_Starts.f k a0).bind fun bt101 => (some bt101.2)) = some r := h
 clear h;replace H := Option.bind_eq_some_iff.mp H;obtain ⟨⟨t101, t102⟩, A20, H⟩ := H;replace H : (some t102) = some r := H
 have A2 := Am A20;clear A20;obtain rfl := Option.some.inj H;go_enter Tryd.func87, Tryd.ntmps87
 go_wp2_with (first | ((with_reducible refine gate_callee (f := 89) rfl ?_); refine goesL_ (some 7) rfl rfl Tryd.func89 (by kernel_rfl) rfl #[.string a0] rfl zE ?_; (with_reducible refine (epitomeref01_Starts.calls k a0 t101 t102 _ A2.out).mono ?_); rintro e w3 ⟨v103, rfl, ho0, hb⟩; refine ⟨_, rfl, ?_⟩; have HO104 := Am (R_lower ho0 (below_size (zB HB)));replace HB := Am (below_step (zB HB) hb); (try clear hb); (try clear ho0)))
 go_ret
 exact ⟨zF, (zB HB)⟩
end Go.Proofs.YthhgobiaecehbaaDoor.F
end
section
namespace Go.Proofs.YthhgobiaecehbaaDoor.F
open Go.RowKit Go.Proofs.YthhgobiaecehbaaDoorW.PrintWords Go.Proofs.YthhgobiaecehbaaDoorW.PrintLast Go.Proofs.YthhgobiaecehbaaDoorW.PrintMore
attribute [local go_sem] max2_int min2_int max_two min_two max_three min_three max_four min_four cell_setCell_isSome
set_option linter.unusedVariables false
set_option linter.unusedSimpArgs false
open Kd
mutual
def epitomeref03_May.j0 : Nat → Int → Bool → Int → Int → ByteArray → Option (Int)
  | 0, _, _, _, _, _ => none
  | k + 1, x4, x5, x102000, x102001, x102002 => if x5 = true then (if x102001 < 0 then (epitomeref03_May.j1 k true x102000 x102001 x102002) else (epitomeref03_May.j1 k (decide (x102001 > 1048576)) x102000 x102001 x102002)) else (if x4 = 2 then (if x102001 = 0 then ((epitomeref01_Valid.f k x102002).bind fun t102 => (if t102 = true then (some 0) else (some 3))) else (some 2)) else (some 1))
def epitomeref03_May.j1 : Nat → Bool → Int → Int → ByteArray → Option (Int)
  | 0, _, _, _, _ => none
  | k + 1, x15, x102000, x102001, x102002 => if x15 = true then (some 2) else (if x102002.toList = ([] : List UInt8) then (some 0) else (some 3))
end
def epitomeref03_May.f (k : Nat) (a0_0 : Int) (a0_1 : Int) (a0_2 : ByteArray) : Option (Int) := if a0_0 = 1 then (epitomeref03_May.j0 k a0_0 (a0_0 == 1) a0_0 a0_1 a0_2) else (epitomeref03_May.j0 k a0_0 (a0_0 == 3) a0_0 a0_1 a0_2)
theorem epitomeref03_May.mono_l : ∀ k, (∀ y0 y1 y2 y3 y4, LeO (epitomeref03_May.j0 k y0 y1 y2 y3 y4) (epitomeref03_May.j0 (k + 1) y0 y1 y2 y3 y4)) ∧ (∀ y0 y1 y2 y3, LeO (epitomeref03_May.j1 k y0 y1 y2 y3) (epitomeref03_May.j1 (k + 1) y0 y1 y2 y3))
  | 0 => ⟨fun _ _ _ _ _ r h => by simp [epitomeref03_May.j0] at h, fun _ _ _ _ r h => by simp [epitomeref03_May.j1] at h⟩
  | k + 1 => by
    obtain ⟨ih0, ih1⟩ := epitomeref03_May.mono_l k
    refine ⟨?_, ?_⟩
    · intro y0 y1 y2 y3 y4
      unfold epitomeref03_May.j0
      repeat' first
      | (with_reducible exact ih0 _ _ _ _ _)
      | (with_reducible exact ih1 _ _ _ _)
      | (with_reducible exact epitomeref01_Valid.mono _ _)
      | (with_reducible exact LeO.refl _)
      | (with_reducible exact LeO.none _)
      | (with_reducible refine LeO.ite ?_ ?_)
      | (with_reducible refine LeO.bind ?_ (fun _ => ?_))
      | exact ih0 _ _ _ _ _
      | exact ih1 _ _ _ _
      | exact epitomeref01_Valid.mono _ _
      | exact LeO.none _
      | refine LeO.ite ?_ ?_
      | refine LeO.bind ?_ (fun _ => ?_)
    · intro y0 y1 y2 y3
      unfold epitomeref03_May.j1
      repeat' first
      | (with_reducible exact ih0 _ _ _ _ _)
      | (with_reducible exact ih1 _ _ _ _)
      | (with_reducible exact epitomeref01_Valid.mono _ _)
      | (with_reducible exact LeO.refl _)
      | (with_reducible exact LeO.none _)
      | (with_reducible refine LeO.ite ?_ ?_)
      | (with_reducible refine LeO.bind ?_ (fun _ => ?_))
      | exact ih0 _ _ _ _ _
      | exact ih1 _ _ _ _
      | exact epitomeref01_Valid.mono _ _
      | exact LeO.none _
      | refine LeO.ite ?_ ?_
      | refine LeO.bind ?_ (fun _ => ?_)
theorem epitomeref03_May.mono : ∀ a0 a1 a2 k, LeO (epitomeref03_May.f k a0 a1 a2) (epitomeref03_May.f (k + 1) a0 a1 a2) := by
  intro a0 a1 a2 k
  obtain ⟨ih0, ih1⟩ := epitomeref03_May.mono_l k
  unfold epitomeref03_May.f
  repeat' first
      | (with_reducible exact ih0 _ _ _ _ _)
      | (with_reducible exact ih1 _ _ _ _)
      | (with_reducible exact epitomeref01_Valid.mono _ _)
      | (with_reducible exact LeO.refl _)
      | (with_reducible exact LeO.none _)
      | (with_reducible refine LeO.ite ?_ ?_)
      | (with_reducible refine LeO.bind ?_ (fun _ => ?_))
      | exact ih0 _ _ _ _ _
      | exact ih1 _ _ _ _
      | exact epitomeref01_Valid.mono _ _
      | exact LeO.none _
      | refine LeO.ite ?_ ?_
      | refine LeO.bind ?_ (fun _ => ?_)
set_option maxHeartbeats 40000000 in
set_option maxRecDepth 100000 in
theorem epitomeref03_May.calls (k : Nat) (a0_0 : Int) (a0_1 : Int) (a0_2 : ByteArray) (r : Int) (w : World) (h : epitomeref03_May.f k a0_0 a0_1 a0_2 = some r) :
  Calls Tryd.prog 74 #[.agg #[.int .i64 a0_0, .int .i64 a0_1, .string a0_2]] w fun e w' => e = .returned (.int .i64 r) ∧ Below w.heap.size w w' := by
 have hu41 := Tryd.underlying41
 have HB := Am (Below.refl w.heap.size w)
 have H : (if a0_0 = 1 then (epitomeref03_May.j0 k a0_0 (a0_0 == 1) a0_0 a0_1 a0_2) else (epitomeref03_May.j0 k a0_0 (a0_0 == 3) a0_0 a0_1 a0_2)) = some r := h
 clear h;have HC2 := Am H;clear H;go_enter Tryd.func74, Tryd.ntmps74
 go_upto_if 5 with (first | ((with_reducible refine gate_dst (N := 1) rfl ?_); refine box_event ?hg (N := 1) ?hd (cs := #[.int .i64 a0_0, .int .i64 a0_1, .string a0_2]) (t := 41) ?hr ?_; (case hd => rfl); (case hg => rfl); (case hr => first | (go_simp; done) | (go_simp; rfl)); intro gb101 hg w3 hbox hb; have BK101 := Am (hbox);have GW101 := Am (zO (w := w) HB hg);have GE101 := Am (zO (w := w) HB hg);replace HB := Am (below_step (zB HB) hb); clear hb hbox hg; obtain ⟨hcz4_0, hcz4_1, hcz4_2, hfz4_0, hfz4_1, hfz4_2⟩ := zc3 BK101))
 (try simp only [Act.put, zS])
 go_cut [5] (fun v5 wc => ∃ (kq : Nat) (x5_1 : Bool), v5 = .bool x5_1 ∧ Aside0 (epitomeref03_May.j0 kq a0_0 x5_1 a0_0 a0_1 a0_2 = some r) ∧ Aside0 (kq ≤ k) ∧ Aside0 (wc.heap[gb101]? = some (.cells #[.int .i64 a0_0, .int .i64 a0_1, .string a0_2] 41 (0, 0))) ∧ Aside0 (Below w.heap.size w wc))
 case first =>
  have H := HC2.out;clear HC2;by_cases c5 : a0_0 = 1
  ·rw [if_pos c5] at H;have c5b0 : (a0_0 == 1) = true := beq_iff_eq.mpr c5
   have c5b1 : (a0_0 != 1) = false := bne_eq_false_iff_eq.mpr c5
   clear c5;(first | rw [c5b0] | (simp only [i64_w, i32_w]; rw [c5b0]) | skip)
   have H' := Am H
   clear H;go_wp2
   go_meet
   case rel => exact ⟨_, ((a0_0 == 1)), zG, H', ⟨by first | omega | exact Nat.le_refl _⟩, ⟨(zK BK101)⟩, ⟨(zB HB)⟩⟩
  ·rw [if_neg c5] at H;have c5b0 : (a0_0 == 1) = false := beq_eq_false_iff_ne.mpr c5
   have c5b1 : (a0_0 != 1) = true := bne_iff_ne.mpr c5
   (first | rw [c5b0] | (simp only [i64_w, i32_w]; rw [c5b0]) | skip)
   have H' := Am H
   clear H;go_wp2
   go_meet
   case rel => exact ⟨_, ((a0_0 == 3)), zG, H', ⟨by first | omega | exact Nat.le_refl _⟩, ⟨(zK BK101)⟩, ⟨(zB HB)⟩⟩
 case rest =>
  clear HC2;(try clear p2);(try clear c5);(try clear c5b0);(try clear c5b1);(try clear hcz4_0);(try clear hcz4_1);(try clear hcz4_2);(try clear hfz4_0);(try clear hfz4_1);(try clear hfz4_2);obtain ⟨kq, x5_1, rfl, HA, HJ1, BK101, HB⟩ := hcut
  cases kq with
  | zero => exact absurd HA.out (by simp [epitomeref03_May.j0])
  | succ kj1 =>
   have H := HA.out;clear HA;simp only [epitomeref03_May.j0] at H
   by_cases c6 : x5_1 = true
   ·subst c6
    have H1 : (if a0_1 < 0 then (epitomeref03_May.j1 kj1 true a0_0 a0_1 a0_2) else (epitomeref03_May.j1 kj1 (decide (a0_1 > 1048576)) a0_0 a0_1 a0_2)) = some r := by rw [if_pos rfl] at H; exact H
    clear H;have H := H1
    clear H1;have HC7 := Am H;clear H;go_upto_region 4 with (fail)
    go_cut [15] (fun v15 wc => ∃ (kq : Nat) (x15_6 : Bool), v15 = .bool x15_6 ∧ Aside0 (epitomeref03_May.j1 kq x15_6 a0_0 a0_1 a0_2 = some r) ∧ Aside0 (kq ≤ kj1) ∧ Aside0 (wc.heap[gb101]? = some (.cells #[.int .i64 a0_0, .int .i64 a0_1, .string a0_2] 41 (0, 0))) ∧ Aside0 (Below w.heap.size w wc))
    case first =>
     have H := HC7.out;clear HC7;by_cases c8 : a0_1 < 0
     ·rw [if_pos c8] at H;have c8b0 : decide (a0_1 < 0) = true := decide_eq_true c8
      clear c8;(first | rw [c8b0] | (simp only [i64_w, i32_w]; rw [c8b0]) | skip)
      have H' := Am H
      clear H;obtain ⟨hcz9_0, hcz9_1, hcz9_2, hfz9_0, hfz9_1, hfz9_2⟩ := zc3 BK101;go_wp2
      go_meet
      case rel => exact ⟨_, (true), zG, H', ⟨by have := HJ1.out; first | omega | exact Nat.le_refl _⟩, ⟨(zK BK101)⟩, ⟨(zB HB)⟩⟩
     ·rw [if_neg c8] at H;have c8b0 : decide (a0_1 < 0) = false := decide_eq_false c8
      clear c8;(first | rw [c8b0] | (simp only [i64_w, i32_w]; rw [c8b0]) | skip)
      have H' := Am H
      clear H;obtain ⟨hcz10_0, hcz10_1, hcz10_2, hfz10_0, hfz10_1, hfz10_2⟩ := zc3 BK101;go_wp2
      go_meet
      case rel => exact ⟨_, (decide (a0_1 > 1048576)), zG, H', ⟨by have := HJ1.out; first | omega | exact Nat.le_refl _⟩, ⟨(zK BK101)⟩, ⟨(zB HB)⟩⟩
    case rest =>
     clear HC7;(try clear p2);(try clear c5);(try clear c5b0);(try clear c5b1);(try clear c6);(try clear c7);(try clear c8);(try clear c8b0);(try clear hcz10_0);(try clear hcz10_1);(try clear hcz10_2);(try clear hcz4_0);(try clear hcz4_1);(try clear hcz4_2);(try clear hcz9_0);(try clear hcz9_1);(try clear hcz9_2);(try clear hfz10_0);(try clear hfz10_1);(try clear hfz10_2);(try clear hfz4_0);(try clear hfz4_1);(try clear hfz4_2);(try clear hfz9_0);(try clear hfz9_1);(try clear hfz9_2);(try clear p2);obtain ⟨kq, x15_6, rfl, HA, HJ6, BK101, HB⟩ := hcut
     cases kq with
     | zero => exact absurd HA.out (by simp [epitomeref03_May.j1])
     | succ kj6 =>
      have H := HA.out;clear HA;simp only [epitomeref03_May.j1] at H
      by_cases c11 : x15_6 = true
      ·subst c11
       have H1 : (some 2) = some r := by rw [if_pos rfl] at H; exact H
       clear H;have H := H1
       clear H1;obtain rfl := Option.some.inj H;go_wp2
       go_ret
       exact ⟨zF, (zB HB)⟩
      ·replace c11 := Bool.eq_false_iff.mpr c11
       subst c11
       have H1 : (if a0_2.toList = ([] : List UInt8) then (some 0) else (some 3)) = some r := by rw [if_neg (show ¬ (false = true) by decide)] at H; exact H
       clear H;have H := H1
       clear H1;by_cases c12 : a0_2.toList = ([] : List UInt8)
       ·rw [if_pos c12] at H;have c12b0 : (a0_2.toList == ([] : List UInt8)) = true := beq_iff_eq.mpr c12
        (try (have c12b0e : (a0_2.toList.isEmpty) = true := by simpa using c12b0))
        have c12b1 : (a0_2.toList != ([] : List UInt8)) = false := bne_eq_false_iff_eq.mpr c12
        clear c12;obtain rfl := Option.some.inj H;obtain ⟨hcz13_0, hcz13_1, hcz13_2, hfz13_0, hfz13_1, hfz13_2⟩ := zc3 BK101;go_wp2
        go_ret
        exact ⟨zF, (zB HB)⟩
       ·rw [if_neg c12] at H;have c12b0 : (a0_2.toList == ([] : List UInt8)) = false := beq_eq_false_iff_ne.mpr c12
        (try (have c12b0e : (a0_2.toList.isEmpty) = false := by simpa using c12b0))
        have c12b1 : (a0_2.toList != ([] : List UInt8)) = true := bne_iff_ne.mpr c12
        obtain rfl := Option.some.inj H;obtain ⟨hcz14_0, hcz14_1, hcz14_2, hfz14_0, hfz14_1, hfz14_2⟩ := zc3 BK101;go_wp2
        go_ret
        exact ⟨zF, (zB HB)⟩
   ·replace c6 := Bool.eq_false_iff.mpr c6
    subst c6
    have H1 : (if a0_0 = 2 then (if a0_1 = 0 then ((epitomeref01_Valid.f kj1 a0_2).bind fun t102 => (if t102 = true then (some 0) else (some 3))) else (some 2)) else (some 1)) = some r := by rw [if_neg (show ¬ (false = true) by decide)] at H; exact H
    clear H;have H := H1
    clear H1;by_cases c15 : a0_0 = 2
    ·rw [if_pos c15] at H;have c15b0 : (a0_0 == 2) = true := beq_iff_eq.mpr c15
     have c15b1 : (a0_0 != 2) = false := bne_eq_false_iff_eq.mpr c15
     clear c15;by_cases c16 : a0_1 = 0
     ·rw [if_pos c16] at H;have c16b0 : (a0_1 == 0) = true := beq_iff_eq.mpr c16
      have c16b1 : (a0_1 != 0) = false := bne_eq_false_iff_eq.mpr c16
      clear c16;replace H := Option.bind_eq_some_iff.mp H;obtain ⟨t102, A170, H⟩ := H;replace H : (if t102 = true then (some 0) else (some 3)) = some r := H
      have A17 := Am A170;clear A170;by_cases c18 : t102 = true
      ·subst c18
       have H1 : (some 0) = some r := by rw [if_pos rfl] at H; exact H
       clear H;have H := H1
       clear H1;obtain rfl := Option.some.inj H;obtain ⟨hcz19_0, hcz19_1, hcz19_2, hfz19_0, hfz19_1, hfz19_2⟩ := zc3 BK101;go_wp2_with (first | ((with_reducible refine gate_callee (f := 87) rfl ?_); refine goesL_ (some 26) rfl rfl Tryd.func87 (by kernel_rfl) rfl #[.string a0_2] rfl zE ?_; (with_reducible refine (epitomeref01_Valid.calls kj1 a0_2 true _ A17.out).mono ?_); rintro e w20 ⟨rfl, hb⟩; refine ⟨_, rfl, ?_⟩; replace BK101 := Am (zU BK101 hb);replace HB := Am (below_step (zB HB) hb); (try clear hb)))
       go_ret
       exact ⟨zF, (zB HB)⟩
      ·replace c18 := Bool.eq_false_iff.mpr c18
       subst c18
       have H1 : (some 3) = some r := by rw [if_neg (show ¬ (false = true) by decide)] at H; exact H
       clear H;have H := H1
       clear H1;obtain rfl := Option.some.inj H;obtain ⟨hcz21_0, hcz21_1, hcz21_2, hfz21_0, hfz21_1, hfz21_2⟩ := zc3 BK101;go_wp2_with (first | ((with_reducible refine gate_callee (f := 87) rfl ?_); refine goesL_ (some 26) rfl rfl Tryd.func87 (by kernel_rfl) rfl #[.string a0_2] rfl zE ?_; (with_reducible refine (epitomeref01_Valid.calls kj1 a0_2 false _ A17.out).mono ?_); rintro e w22 ⟨rfl, hb⟩; refine ⟨_, rfl, ?_⟩; replace BK101 := Am (zU BK101 hb);replace HB := Am (below_step (zB HB) hb); (try clear hb)))
       go_ret
       exact ⟨zF, (zB HB)⟩
     ·rw [if_neg c16] at H;have c16b0 : (a0_1 == 0) = false := beq_eq_false_iff_ne.mpr c16
      have c16b1 : (a0_1 != 0) = true := bne_iff_ne.mpr c16
      obtain rfl := Option.some.inj H;obtain ⟨hcz23_0, hcz23_1, hcz23_2, hfz23_0, hfz23_1, hfz23_2⟩ := zc3 BK101;go_wp2
      go_ret
      exact ⟨zF, (zB HB)⟩
    ·rw [if_neg c15] at H;have c15b0 : (a0_0 == 2) = false := beq_eq_false_iff_ne.mpr c15
     have c15b1 : (a0_0 != 2) = true := bne_iff_ne.mpr c15
     obtain rfl := Option.some.inj H;go_wp2
     go_ret
     exact ⟨zF, (zB HB)⟩
end Go.Proofs.YthhgobiaecehbaaDoor.F
end
section
namespace Go.Proofs.YthhgobiaecehbaaDoor.F
open Go.RowKit Go.Proofs.YthhgobiaecehbaaDoorW.PrintWords Go.Proofs.YthhgobiaecehbaaDoorW.PrintLast Go.Proofs.YthhgobiaecehbaaDoorW.PrintMore
attribute [local go_sem] max2_int min2_int max_two min_two max_three min_three max_four min_four cell_setCell_isSome
set_option linter.unusedVariables false
set_option linter.unusedSimpArgs false
open Kd
def epitomeref04_May.l0 : Nat → List (S41) → Int → Option (Int)
  | 0, _, _ => none
  | k + 1, x0, x3 => if x3 < (x0.length : Int) then (if 0 ≤ x3 then ((epitomeref03_May.f k ((rd_T41 x0 x3).f0) ((rd_T41 x0 x3).f1) ((rd_T41 x0 x3).f2)).bind fun t102 => (if t102 = 0 then (epitomeref04_May.l0 k x0 (wrap64 (x3 + 1))) else (some t102))) else (none)) else ((epitomeref04_In.f k x0).bind fun t103 => (if t103 > 1048576 then (some 4) else (some 0)))
def epitomeref04_May.f (k : Nat) (l0 : List (S41)) : Option (Int) := epitomeref04_May.l0 k l0 0
theorem epitomeref04_May.mono_l : ∀ k, (∀ y0 y1, LeO (epitomeref04_May.l0 k y0 y1) (epitomeref04_May.l0 (k + 1) y0 y1))
  | 0 => fun _ _ r h => by simp [epitomeref04_May.l0] at h
  | k + 1 => by
    have ih0 := epitomeref04_May.mono_l k
    · intro y0 y1
      unfold epitomeref04_May.l0
      repeat' first
      | (with_reducible exact ih0 _ _)
      | (with_reducible exact epitomeref03_May.mono _ _ _ _)
      | (with_reducible exact epitomeref04_In.mono _ _)
      | (with_reducible exact LeO.refl _)
      | (with_reducible exact LeO.none _)
      | (with_reducible refine LeO.ite ?_ ?_)
      | (with_reducible refine LeO.bind ?_ (fun _ => ?_))
      | exact ih0 _ _
      | exact epitomeref03_May.mono _ _ _ _
      | exact epitomeref04_In.mono _ _
      | exact LeO.none _
      | refine LeO.ite ?_ ?_
      | refine LeO.bind ?_ (fun _ => ?_)
theorem epitomeref04_May.mono : ∀ a0 k, LeO (epitomeref04_May.f k a0) (epitomeref04_May.f (k + 1) a0) := by
  intro a0 k
  have ih0 := epitomeref04_May.mono_l k
  unfold epitomeref04_May.f
  repeat' first
      | (with_reducible exact ih0 _ _)
      | (with_reducible exact epitomeref03_May.mono _ _ _ _)
      | (with_reducible exact epitomeref04_In.mono _ _)
      | (with_reducible exact LeO.refl _)
      | (with_reducible exact LeO.none _)
      | (with_reducible refine LeO.ite ?_ ?_)
      | (with_reducible refine LeO.bind ?_ (fun _ => ?_))
      | exact ih0 _ _
      | exact epitomeref03_May.mono _ _ _ _
      | exact epitomeref04_In.mono _ _
      | exact LeO.none _
      | refine LeO.ite ?_ ?_
      | refine LeO.bind ?_ (fun _ => ?_)
set_option maxHeartbeats 40000000 in
set_option maxRecDepth 100000 in
theorem epitomeref04_May.calls (k : Nat) (A0 : Option Addr) (c0 : Nat) (l0 : List (S41)) (r : Int) (w : World) (hr0 : Kd.C k41 w A0 l0.length l0) (hc0 : l0.length ≤ c0) (h : epitomeref04_May.f k l0 = some r) :
  Calls Tryd.prog 46 #[.slice A0 l0.length c0] w fun e w' => e = .returned (.int .i64 r) ∧ Below w.heap.size w w' := by
 have hu41 := Tryd.underlying41
 have HR0 := Am hr0;have HC0 := Am hc0;clear hr0 hc0;have HB := Am (Below.refl w.heap.size w)
 have H : (epitomeref04_May.l0 k l0 0) = some r := h
 clear h;have H' := Am H
 clear H;go_enter Tryd.func46, Tryd.ntmps46
 go_wp2
 go_loopg [3] k (fun kq v3 w' => ∃ (x3_1 : Int), v3 = .int .i64 x3_1 ∧ Aside0 (epitomeref04_May.l0 kq l0 x3_1 = some r) ∧ Aside0 (kq ≤ k) ∧ Aside0 (Below w.heap.size w w'))
 case atStart => exact ⟨(0), zG, H', ⟨Nat.le_refl _⟩, ⟨(zB HB)⟩⟩
 case round =>
  clear H';obtain ⟨x3_1, rfl, HA, HK1, HB⟩ := hrel
  cases gk with
  | zero => exact absurd HA.out (by simp [epitomeref04_May.l0])
  | succ k1 =>
   have H := HA.out;clear HA;simp only [epitomeref04_May.l0] at H
   by_cases c2 : x3_1 < (l0.length : Int)
   ·rw [if_pos c2] at H;have c2b0 : decide (x3_1 < (l0.length : Int)) = true := decide_eq_true c2
    clear c2;by_cases c3 : 0 ≤ x3_1
    ·rw [if_pos c3] at H;have c3b0 : decide (0 ≤ x3_1) = true := decide_eq_true c3
     clear c3;replace H := Option.bind_eq_some_iff.mp H;obtain ⟨t102, A40, H⟩ := H;replace H : (if t102 = 0 then (epitomeref04_May.l0 k1 l0 (wrap64 (x3_1 + 1))) else (some t102)) = some r := H
     have A4 := Am A40;clear A40;by_cases c5 : t102 = 0
     ·rw [if_pos c5] at H;have c5b0 : (t102 == 0) = true := beq_iff_eq.mpr c5
      have c5b1 : (t102 != 0) = false := bne_eq_false_iff_eq.mpr c5
      clear c5;have H' := Am H
      clear H;have p101 : 0 ≤ (x3_1 : Int) := of_decide_eq_true (by assumption)
      have q101 : x3_1 < (l0.length : Int) := of_decide_eq_true (by assumption)
      obtain ⟨ad101, e101, hx101_0, hx101_1, hx101_2⟩ := at_T41 HR0.out x3_1 p101 q101
      cases e101
      replace hx101_0 := (HB.out.cell (World.block_lt_of_cell? w _ hx101_0)).trans hx101_0
      replace hx101_1 := (HB.out.cell (World.block_lt_of_cell? w _ hx101_1)).trans hx101_1
      replace hx101_2 := (HB.out.cell (World.block_lt_of_cell? w _ hx101_2)).trans hx101_2
      replace p101 := eq_true p101;replace q101 := eq_true q101;go_wp2_with (first | ((with_reducible refine gate_callee (f := 74) rfl ?_); refine goesL_ (some 15) rfl rfl Tryd.func74 (by kernel_rfl) rfl #[.agg #[.int .i64 ((rd_T41 l0 x3_1).f0), .int .i64 ((rd_T41 l0 x3_1).f1), .string ((rd_T41 l0 x3_1).f2)]] rfl zE ?_; (with_reducible refine (epitomeref03_May.calls k1 ((rd_T41 l0 x3_1).f0) ((rd_T41 l0 x3_1).f1) ((rd_T41 l0 x3_1).f2) t102 _ A4.out).mono ?_); rintro e w6 ⟨rfl, hb⟩; refine ⟨_, rfl, ?_⟩; replace HB := Am (below_step (zB HB) hb); (try clear hb)))
      go_roundg k1
      case measure => have := HK1.out; omega
      case rel => exact ⟨(wrap64 (x3_1 + 1)), zG, H', ⟨by have := HK1.out; omega⟩, ⟨(zB HB)⟩⟩
     ·rw [if_neg c5] at H;have c5b0 : (t102 == 0) = false := beq_eq_false_iff_ne.mpr c5
      have c5b1 : (t102 != 0) = true := bne_iff_ne.mpr c5
      obtain rfl := Option.some.inj H;have p101 : 0 ≤ (x3_1 : Int) := of_decide_eq_true (by assumption)
      have q101 : x3_1 < (l0.length : Int) := of_decide_eq_true (by assumption)
      obtain ⟨ad101, e101, hx101_0, hx101_1, hx101_2⟩ := at_T41 HR0.out x3_1 p101 q101
      cases e101
      replace hx101_0 := (HB.out.cell (World.block_lt_of_cell? w _ hx101_0)).trans hx101_0
      replace hx101_1 := (HB.out.cell (World.block_lt_of_cell? w _ hx101_1)).trans hx101_1
      replace hx101_2 := (HB.out.cell (World.block_lt_of_cell? w _ hx101_2)).trans hx101_2
      replace p101 := eq_true p101;replace q101 := eq_true q101;go_wp2_with (first | ((with_reducible refine gate_callee (f := 74) rfl ?_); refine goesL_ (some 15) rfl rfl Tryd.func74 (by kernel_rfl) rfl #[.agg #[.int .i64 ((rd_T41 l0 x3_1).f0), .int .i64 ((rd_T41 l0 x3_1).f1), .string ((rd_T41 l0 x3_1).f2)]] rfl zE ?_; (with_reducible refine (epitomeref03_May.calls k1 ((rd_T41 l0 x3_1).f0) ((rd_T41 l0 x3_1).f1) ((rd_T41 l0 x3_1).f2) t102 _ A4.out).mono ?_); rintro e w7 ⟨rfl, hb⟩; refine ⟨_, rfl, ?_⟩; replace HB := Am (below_step (zB HB) hb); (try clear hb)))
      go_ret
      exact ⟨zF, (zB HB)⟩
    ·rw [if_neg c3] at H;exact absurd H (by simp)
   ·rw [if_neg c2] at H;have c2b0 : decide (x3_1 < (l0.length : Int)) = false := decide_eq_false c2
    clear c2;replace H := Option.bind_eq_some_iff.mp H;obtain ⟨t103, A80, H⟩ := H;replace H : (if t103 > 1048576 then (some 4) else (some 0)) = some r := H
    have A8 := Am A80;clear A80;by_cases c9 : t103 > 1048576
    ·rw [if_pos c9] at H;have c9b0 : decide (1048576 < t103) = true := decide_eq_true c9
     clear c9;obtain rfl := Option.some.inj H;go_wp2_with (first | ((with_reducible refine gate_callee (f := 47) rfl ?_); refine goesL_ (some 20) rfl rfl Tryd.func47 (by kernel_rfl) rfl #[.slice A0 l0.length c0] rfl zE ?_; (with_reducible refine (epitomeref04_In.calls k1 _ _ l0 t103 _ ?side1 ?side2 A8.out).mono ?_); (case side1 => exact zI (C_below HR0.out HB.out)); (case side2 => exact HC0.out); rintro e w10 ⟨rfl, hb⟩; refine ⟨_, rfl, ?_⟩; replace HB := Am (below_step (zB HB) hb); (try clear hb)))
     go_ret
     exact ⟨zF, (zB HB)⟩
    ·rw [if_neg c9] at H;have c9b0 : decide (1048576 < t103) = false := decide_eq_false c9
     clear c9;obtain rfl := Option.some.inj H;go_wp2_with (first | ((with_reducible refine gate_callee (f := 47) rfl ?_); refine goesL_ (some 20) rfl rfl Tryd.func47 (by kernel_rfl) rfl #[.slice A0 l0.length c0] rfl zE ?_; (with_reducible refine (epitomeref04_In.calls k1 _ _ l0 t103 _ ?side1 ?side2 A8.out).mono ?_); (case side1 => exact zI (C_below HR0.out HB.out)); (case side2 => exact HC0.out); rintro e w11 ⟨rfl, hb⟩; refine ⟨_, rfl, ?_⟩; replace HB := Am (below_step (zB HB) hb); (try clear hb)))
     go_ret
     exact ⟨zF, (zB HB)⟩
end Go.Proofs.YthhgobiaecehbaaDoor.F
end
section
namespace Go.Proofs.YthhgobiaecehbaaDoor.F
open Go.RowKit Go.Proofs.YthhgobiaecehbaaDoorW.PrintWords Go.Proofs.YthhgobiaecehbaaDoorW.PrintLast Go.Proofs.YthhgobiaecehbaaDoorW.PrintMore
attribute [local go_sem] max2_int min2_int max_two min_two max_three min_three max_four min_four cell_setCell_isSome
set_option linter.unusedVariables false
set_option linter.unusedSimpArgs false
open Kd
def epitomeref10_Chain.l0 : Nat → Int → List (List (S41)) → Int → Option (Int × Int)
  | 0, _, _, _ => none
  | k + 1, x0, x1, x8 => if x8 < (x1.length : Int) then (if 0 ≤ x8 then ((epitomeref04_May.f k (rd_L3 x1 x8)).bind fun t106 => (if t106 = 0 then ((epitomeref04_In.f k (rd_L3 x1 x8)).bind fun t108 => (if t108 = x0 then ((epitomeref04_Out.f k (rd_L3 x1 x8)).bind fun t110 => (epitomeref10_Chain.l0 k t110 x1 (wrap64 (x8 + 1)))) else (some (0, 5)))) else (some (0, t106)))) else (none)) else (some (x0, 0))
def epitomeref10_Chain.f (k : Nat) (a0 : Int) (l1 : List (List (S41))) : Option (Int × Int) := (epitomeref04_Keep.f k a0).bind fun bt101 => (if bt101.2 = 0 then (epitomeref10_Chain.l0 k a0 l1 0) else (some (0, bt101.2)))
theorem epitomeref10_Chain.mono_l : ∀ k, (∀ y0 y1 y2, LeO (epitomeref10_Chain.l0 k y0 y1 y2) (epitomeref10_Chain.l0 (k + 1) y0 y1 y2))
  | 0 => fun _ _ _ r h => by simp [epitomeref10_Chain.l0] at h
  | k + 1 => by
    have ih0 := epitomeref10_Chain.mono_l k
    · intro y0 y1 y2
      unfold epitomeref10_Chain.l0
      repeat' first
      | (with_reducible exact ih0 _ _ _)
      | (with_reducible exact epitomeref04_In.mono _ _)
      | (with_reducible exact epitomeref04_Keep.mono _ _)
      | (with_reducible exact epitomeref04_May.mono _ _)
      | (with_reducible exact epitomeref04_Out.mono _ _)
      | (with_reducible exact LeO.refl _)
      | (with_reducible exact LeO.none _)
      | (with_reducible refine LeO.ite ?_ ?_)
      | (with_reducible refine LeO.bind ?_ (fun _ => ?_))
      | exact ih0 _ _ _
      | exact epitomeref04_In.mono _ _
      | exact epitomeref04_Keep.mono _ _
      | exact epitomeref04_May.mono _ _
      | exact epitomeref04_Out.mono _ _
      | exact LeO.none _
      | refine LeO.ite ?_ ?_
      | refine LeO.bind ?_ (fun _ => ?_)
theorem epitomeref10_Chain.mono : ∀ a0 a1 k, LeO (epitomeref10_Chain.f k a0 a1) (epitomeref10_Chain.f (k + 1) a0 a1) := by
  intro a0 a1 k
  have ih0 := epitomeref10_Chain.mono_l k
  unfold epitomeref10_Chain.f
  repeat' first
      | (with_reducible exact ih0 _ _ _)
      | (with_reducible exact epitomeref04_In.mono _ _)
      | (with_reducible exact epitomeref04_Keep.mono _ _)
      | (with_reducible exact epitomeref04_May.mono _ _)
      | (with_reducible exact epitomeref04_Out.mono _ _)
      | (with_reducible exact LeO.refl _)
      | (with_reducible exact LeO.none _)
      | (with_reducible refine LeO.ite ?_ ?_)
      | (with_reducible refine LeO.bind ?_ (fun _ => ?_))
      | exact ih0 _ _ _
      | exact epitomeref04_In.mono _ _
      | exact epitomeref04_Keep.mono _ _
      | exact epitomeref04_May.mono _ _
      | exact epitomeref04_Out.mono _ _
      | exact LeO.none _
      | refine LeO.ite ?_ ?_
      | refine LeO.bind ?_ (fun _ => ?_)
set_option maxHeartbeats 40000000 in
set_option maxRecDepth 100000 in
theorem epitomeref10_Chain.calls (k : Nat) (a0 : Int) (A1 : Option Addr) (c1 : Nat) (l1 : List (List (S41))) (r1 : Int) (r2 : Int) (w : World) (hr1 : Kd.C (Kd.slice 41 k41) w A1 l1.length l1) (hc1 : l1.length ≤ c1) (h : epitomeref10_Chain.f k a0 l1 = some (r1, r2)) :
  Calls Tryd.prog 19 #[.int .i64 a0, .slice A1 l1.length c1] w fun e w' => e = .returned (.tuple #[.int .i64 r1, .int .i64 r2]) ∧ Below w.heap.size w w' := by
 have HR1 := Am hr1;have HC1 := Am hc1;clear hr1 hc1;have HB := Am (Below.refl w.heap.size w)
 have H : ((epitomeref04_Keep.f k a0).bind fun bt101 => (if bt101.2 = 0 then (epitomeref10_Chain.l0 k a0 l1 0) else (some (0, bt101.2)))) = some (r1, r2) := h
 clear h;replace H := Option.bind_eq_some_iff.mp H;obtain ⟨⟨t101, t102⟩, A30, H⟩ := H;replace H : (if t102 = 0 then (epitomeref10_Chain.l0 k a0 l1 0) else (some (0, t102))) = some (r1, r2) := H
 have A3 := Am A30;clear A30;by_cases c4 : t102 = 0
 ·rw [if_pos c4] at H;have c4b0 : (t102 == 0) = true := beq_iff_eq.mpr c4
  have c4b1 : (t102 != 0) = false := bne_eq_false_iff_eq.mpr c4
  clear c4;have H' := Am H
  clear H;go_enter Tryd.func19, Tryd.ntmps19
  go_wp2_with (first | ((with_reducible refine gate_callee (f := 42) rfl ?_); refine goesL_ (some 12) rfl rfl Tryd.func42 (by kernel_rfl) rfl #[.int .i64 a0] rfl zE ?_; (with_reducible refine (epitomeref04_Keep.calls k a0 t101 t102 _ A3.out).mono ?_); rintro e w5 ⟨v103, rfl, ho0, hb⟩; refine ⟨_, rfl, ?_⟩; have HO104 := Am (R_lower ho0 (below_size (zB HB)));replace HB := Am (below_step (zB HB) hb); (try clear hb); (try clear ho0)))
  go_loopg [0, 8] k (fun kq v0 v8 w' => ∃ (x0_1 : Int) (x8_1 : Int), v0 = .int .i64 x0_1 ∧ v8 = .int .i64 x8_1 ∧ Aside0 (epitomeref10_Chain.l0 kq x0_1 l1 x8_1 = some (r1, r2)) ∧ Aside0 (kq ≤ k) ∧ Aside0 (Below w.heap.size w w'))
  case atStart => exact ⟨(a0), (0), zG, zG, H', ⟨Nat.le_refl _⟩, ⟨(zB HB)⟩⟩
  case round =>
   clear H';(try clear c1);(try clear p2);(try clear c4);(try clear c4b0);(try clear c4b1);obtain ⟨x0_1, x8_1, rfl, rfl, HA, HK1, HB⟩ := hrel
   cases gk with
   | zero => exact absurd HA.out (by simp [epitomeref10_Chain.l0])
   | succ k1 =>
    have H := HA.out;clear HA;simp only [epitomeref10_Chain.l0] at H
    by_cases c6 : x8_1 < (l1.length : Int)
    ·rw [if_pos c6] at H;have c6b0 : decide (x8_1 < (l1.length : Int)) = true := decide_eq_true c6
     clear c6;by_cases c7 : 0 ≤ x8_1
     ·rw [if_pos c7] at H;have c7b0 : decide (0 ≤ x8_1) = true := decide_eq_true c7
      clear c7;replace H := Option.bind_eq_some_iff.mp H;obtain ⟨t106, A80, H⟩ := H;replace H : (if t106 = 0 then ((epitomeref04_In.f k1 (rd_L3 l1 x8_1)).bind fun t108 => (if t108 = x0_1 then ((epitomeref04_Out.f k1 (rd_L3 l1 x8_1)).bind fun t110 => (epitomeref10_Chain.l0 k1 t110 l1 (wrap64 (x8_1 + 1)))) else (some (0, 5)))) else (some (0, t106))) = some (r1, r2) := H
      have A8 := Am A80;clear A80;by_cases c9 : t106 = 0
      ·rw [if_pos c9] at H;have c9b0 : (t106 == 0) = true := beq_iff_eq.mpr c9
       have c9b1 : (t106 != 0) = false := bne_eq_false_iff_eq.mpr c9
       clear c9;replace H := Option.bind_eq_some_iff.mp H;obtain ⟨t108, A100, H⟩ := H;replace H : (if t108 = x0_1 then ((epitomeref04_Out.f k1 (rd_L3 l1 x8_1)).bind fun t110 => (epitomeref10_Chain.l0 k1 t110 l1 (wrap64 (x8_1 + 1)))) else (some (0, 5))) = some (r1, r2) := H
       have A10 := Am A100;clear A100;by_cases c11 : t108 = x0_1
       ·rw [if_pos c11] at H;have c11b0 : (t108 == x0_1) = true := beq_iff_eq.mpr c11
        have c11b1 : (t108 != x0_1) = false := bne_eq_false_iff_eq.mpr c11
        clear c11;replace H := Option.bind_eq_some_iff.mp H;obtain ⟨t110, A120, H⟩ := H;replace H : (epitomeref10_Chain.l0 k1 t110 l1 (wrap64 (x8_1 + 1))) = some (r1, r2) := H
        have A12 := Am A120;clear A120;have H' := Am H
        clear H;have p105 : 0 ≤ (x8_1 : Int) := of_decide_eq_true (by assumption)
        have q105 : x8_1 < (l1.length : Int) := of_decide_eq_true (by assumption)
        obtain ⟨ad105, A105_0, c105_0, e105, hx105_0, hl105_0, hi105_0⟩ := at_L3 HR1.out x8_1 p105 q105
        cases e105
        replace hx105_0 := (HB.out.cell (World.block_lt_of_cell? w _ hx105_0)).trans hx105_0
        have HR105_0 := Am hi105_0;have HC105_0 := Am hl105_0;clear hi105_0 hl105_0;replace p105 := eq_true p105;replace q105 := eq_true q105;go_wp2_with (first | ((with_reducible refine gate_callee (f := 46) rfl ?_); refine goesL_ (some 28) rfl rfl Tryd.func46 (by kernel_rfl) rfl #[.slice A105_0 (rd_L3 l1 x8_1).length c105_0] rfl zE ?_; (with_reducible refine (epitomeref04_May.calls k1 _ _ (rd_L3 l1 x8_1) t106 _ ?side1 ?side2 A8.out).mono ?_); (case side1 => exact zI (C_below HR105_0.out HB.out)); (case side2 => exact HC105_0.out); rintro e w13 ⟨rfl, hb⟩; refine ⟨_, rfl, ?_⟩; replace HB := Am (below_step (zB HB) hb); (try clear hb); have p107 : 0 ≤ (x8_1 : Int) := of_decide_eq_true (by assumption); have q107 : x8_1 < (l1.length : Int) := of_decide_eq_true (by assumption); obtain ⟨ad107, A107_0, c107_0, e107, hx107_0, hl107_0, hi107_0⟩ := at_L3 HR1.out x8_1 p107 q107; obtain rfl : ad105 = ad107 := (by injection e107); replace hx107_0 := (HB.out.cell (World.block_lt_of_cell? w _ hx107_0)).trans hx107_0; have HR107_0 := Am hi107_0; have HC107_0 := Am hl107_0; clear hi107_0 hl107_0; replace p107 := eq_true p107; replace q107 := eq_true q107) | ((with_reducible refine gate_callee (f := 47) rfl ?_); refine goesL_ (some 36) rfl rfl Tryd.func47 (by kernel_rfl) rfl #[.slice A107_0 (rd_L3 l1 x8_1).length c107_0] rfl zE ?_; (with_reducible refine (epitomeref04_In.calls k1 _ _ (rd_L3 l1 x8_1) t108 _ ?side1 ?side2 A10.out).mono ?_); (case side1 => exact zI (C_below HR107_0.out HB.out)); (case side2 => exact HC107_0.out); rintro e w14 ⟨rfl, hb⟩; refine ⟨_, rfl, ?_⟩; replace HB := Am (below_step (zB HB) hb); (try clear hb); have p109 : 0 ≤ (x8_1 : Int) := of_decide_eq_true (by assumption); have q109 : x8_1 < (l1.length : Int) := of_decide_eq_true (by assumption); obtain ⟨ad109, A109_0, c109_0, e109, hx109_0, hl109_0, hi109_0⟩ := at_L3 HR1.out x8_1 p109 q109; obtain rfl : ad105 = ad109 := (by injection e109); replace hx109_0 := (HB.out.cell (World.block_lt_of_cell? w _ hx109_0)).trans hx109_0; have HR109_0 := Am hi109_0; have HC109_0 := Am hl109_0; clear hi109_0 hl109_0; replace p109 := eq_true p109; replace q109 := eq_true q109) | ((with_reducible refine gate_callee (f := 48) rfl ?_); refine goesL_ (some 43) rfl rfl Tryd.func48 (by kernel_rfl) rfl #[.slice A109_0 (rd_L3 l1 x8_1).length c109_0] rfl zE ?_; (with_reducible refine (epitomeref04_Out.calls k1 _ _ (rd_L3 l1 x8_1) t110 _ ?side1 ?side2 A12.out).mono ?_); (case side1 => exact zI (C_below HR109_0.out HB.out)); (case side2 => exact HC109_0.out); rintro e w15 ⟨rfl, hb⟩; refine ⟨_, rfl, ?_⟩; replace HB := Am (below_step (zB HB) hb); (try clear hb)))
        go_roundg k1
        case measure => have := HK1.out; omega
        case rel => exact ⟨(t110), (wrap64 (x8_1 + 1)), zG, zG, H', ⟨by have := HK1.out; omega⟩, ⟨(zB HB)⟩⟩
       ·rw [if_neg c11] at H;have c11b0 : (t108 == x0_1) = false := beq_eq_false_iff_ne.mpr c11
        have c11b1 : (t108 != x0_1) = true := bne_iff_ne.mpr c11
        simp only [Option.some.injEq, Prod.mk.injEq] at H
        obtain ⟨rfl, rfl⟩ := H;have p105 : 0 ≤ (x8_1 : Int) := of_decide_eq_true (by assumption)
        have q105 : x8_1 < (l1.length : Int) := of_decide_eq_true (by assumption)
        obtain ⟨ad105, A105_0, c105_0, e105, hx105_0, hl105_0, hi105_0⟩ := at_L3 HR1.out x8_1 p105 q105
        cases e105
        replace hx105_0 := (HB.out.cell (World.block_lt_of_cell? w _ hx105_0)).trans hx105_0
        have HR105_0 := Am hi105_0;have HC105_0 := Am hl105_0;clear hi105_0 hl105_0;replace p105 := eq_true p105;replace q105 := eq_true q105;go_wp2_with (first | ((with_reducible refine gate_callee (f := 46) rfl ?_); refine goesL_ (some 28) rfl rfl Tryd.func46 (by kernel_rfl) rfl #[.slice A105_0 (rd_L3 l1 x8_1).length c105_0] rfl zE ?_; (with_reducible refine (epitomeref04_May.calls k1 _ _ (rd_L3 l1 x8_1) t106 _ ?side1 ?side2 A8.out).mono ?_); (case side1 => exact zI (C_below HR105_0.out HB.out)); (case side2 => exact HC105_0.out); rintro e w16 ⟨rfl, hb⟩; refine ⟨_, rfl, ?_⟩; replace HB := Am (below_step (zB HB) hb); (try clear hb); have p107 : 0 ≤ (x8_1 : Int) := of_decide_eq_true (by assumption); have q107 : x8_1 < (l1.length : Int) := of_decide_eq_true (by assumption); obtain ⟨ad107, A107_0, c107_0, e107, hx107_0, hl107_0, hi107_0⟩ := at_L3 HR1.out x8_1 p107 q107; obtain rfl : ad105 = ad107 := (by injection e107); replace hx107_0 := (HB.out.cell (World.block_lt_of_cell? w _ hx107_0)).trans hx107_0; have HR107_0 := Am hi107_0; have HC107_0 := Am hl107_0; clear hi107_0 hl107_0; replace p107 := eq_true p107; replace q107 := eq_true q107) | ((with_reducible refine gate_callee (f := 47) rfl ?_); refine goesL_ (some 36) rfl rfl Tryd.func47 (by kernel_rfl) rfl #[.slice A107_0 (rd_L3 l1 x8_1).length c107_0] rfl zE ?_; (with_reducible refine (epitomeref04_In.calls k1 _ _ (rd_L3 l1 x8_1) t108 _ ?side1 ?side2 A10.out).mono ?_); (case side1 => exact zI (C_below HR107_0.out HB.out)); (case side2 => exact HC107_0.out); rintro e w17 ⟨rfl, hb⟩; refine ⟨_, rfl, ?_⟩; replace HB := Am (below_step (zB HB) hb); (try clear hb)))
        go_ret2
        exact ⟨zF, (zB HB)⟩
      ·rw [if_neg c9] at H;have c9b0 : (t106 == 0) = false := beq_eq_false_iff_ne.mpr c9
       have c9b1 : (t106 != 0) = true := bne_iff_ne.mpr c9
       simp only [Option.some.injEq, Prod.mk.injEq] at H
       obtain ⟨rfl, rfl⟩ := H;have p105 : 0 ≤ (x8_1 : Int) := of_decide_eq_true (by assumption)
       have q105 : x8_1 < (l1.length : Int) := of_decide_eq_true (by assumption)
       obtain ⟨ad105, A105_0, c105_0, e105, hx105_0, hl105_0, hi105_0⟩ := at_L3 HR1.out x8_1 p105 q105
       cases e105
       replace hx105_0 := (HB.out.cell (World.block_lt_of_cell? w _ hx105_0)).trans hx105_0
       have HR105_0 := Am hi105_0;have HC105_0 := Am hl105_0;clear hi105_0 hl105_0;replace p105 := eq_true p105;replace q105 := eq_true q105;go_wp2_with (first | ((with_reducible refine gate_callee (f := 46) rfl ?_); refine goesL_ (some 28) rfl rfl Tryd.func46 (by kernel_rfl) rfl #[.slice A105_0 (rd_L3 l1 x8_1).length c105_0] rfl zE ?_; (with_reducible refine (epitomeref04_May.calls k1 _ _ (rd_L3 l1 x8_1) t106 _ ?side1 ?side2 A8.out).mono ?_); (case side1 => exact zI (C_below HR105_0.out HB.out)); (case side2 => exact HC105_0.out); rintro e w18 ⟨rfl, hb⟩; refine ⟨_, rfl, ?_⟩; replace HB := Am (below_step (zB HB) hb); (try clear hb)))
       go_ret2
       exact ⟨zF, (zB HB)⟩
     ·rw [if_neg c7] at H;exact absurd H (by simp)
    ·rw [if_neg c6] at H;have c6b0 : decide (x8_1 < (l1.length : Int)) = false := decide_eq_false c6
     clear c6;simp only [Option.some.injEq, Prod.mk.injEq] at H
     obtain ⟨rfl, rfl⟩ := H;go_wp2
     go_ret2
     exact ⟨zF, (zB HB)⟩
 ·rw [if_neg c4] at H;have c4b0 : (t102 == 0) = false := beq_eq_false_iff_ne.mpr c4
  have c4b1 : (t102 != 0) = true := bne_iff_ne.mpr c4
  simp only [Option.some.injEq, Prod.mk.injEq] at H
  obtain ⟨rfl, rfl⟩ := H;go_enter Tryd.func19, Tryd.ntmps19
  go_wp2_with (first | ((with_reducible refine gate_callee (f := 42) rfl ?_); refine goesL_ (some 12) rfl rfl Tryd.func42 (by kernel_rfl) rfl #[.int .i64 a0] rfl zE ?_; (with_reducible refine (epitomeref04_Keep.calls k a0 t101 t102 _ A3.out).mono ?_); rintro e w19 ⟨v103, rfl, ho0, hb⟩; refine ⟨_, rfl, ?_⟩; have HO104 := Am (R_lower ho0 (below_size (zB HB)));replace HB := Am (below_step (zB HB) hb); (try clear hb); (try clear ho0)))
  go_ret2
  exact ⟨zF, (zB HB)⟩
end Go.Proofs.YthhgobiaecehbaaDoor.F
end
section
namespace Go.Proofs.YthhgobiaecehbaaDoor.F
open Go.RowKit Go.Proofs.YthhgobiaecehbaaDoorW.PrintWords Go.Proofs.YthhgobiaecehbaaDoorW.PrintLast Go.Proofs.YthhgobiaecehbaaDoorW.PrintMore
set_option linter.unusedVariables false
set_option linter.unusedSimpArgs false
abbrev zA.a := @Kd.R_alloc
abbrev zA.n := @Kd.R_drewN
abbrev zA.d := @Kd.R_drew
abbrev zA.w := @pw_below_drewN
abbrev zA.b := @below_alloc
abbrev zA.e := @below_drew1
abbrev zA.s := @below_set
abbrev zA.f := @blk_drewN
abbrev zA.g := @blk_drew
abbrev zA.h := @blk_alloc
abbrev zA.p := @Kd.Q_alloc
abbrev zA.q := @Kd.Q_drewN
abbrev zA.r := @Kd.Q_drew
end Go.Proofs.YthhgobiaecehbaaDoor.F
end
section
namespace Go.Proofs.YthhgobiaecehbaaDoor.F
open Go.RowKit Go.Proofs.YthhgobiaecehbaaDoorW.PrintWords Go.Proofs.YthhgobiaecehbaaDoorW.PrintLast Go.Proofs.YthhgobiaecehbaaDoorW.PrintMore
attribute [local go_sem] max2_int min2_int max_two min_two max_three min_three max_four min_four cell_setCell_isSome
set_option linter.unusedVariables false
set_option linter.unusedSimpArgs false
open Kd
mutual
def epitomeref05_Of.l0 : Nat → List (S41) → List (S41) → Int → Option ((List (S41)))
  | 0, _, _, _ => none
  | k + 1, x0, x3, x4 => if x4 < (x0.length : Int) then (if 0 ≤ x4 then (if ((rd_T41 x0 x4).f1) = 0 then (epitomeref05_Of.j1 k x0 x3 x4 (((rd_T41 x0 x4).f2).toList == ([] : List UInt8)) ((rd_T41 x0 x4).f0) ((rd_T41 x0 x4).f1) ((rd_T41 x0 x4).f2)) else (epitomeref05_Of.j1 k x0 x3 x4 false ((rd_T41 x0 x4).f0) ((rd_T41 x0 x4).f1) ((rd_T41 x0 x4).f2))) else (none)) else (some x3)
def epitomeref05_Of.j1 : Nat → List (S41) → List (S41) → Int → Bool → Int → Int → ByteArray → Option ((List (S41)))
  | 0, _, _, _, _, _, _, _ => none
  | k + 1, x0, x3, x4, x25, x106000, x106001, x106002 => if x25 = true then (epitomeref05_Of.l0 k x0 x3 (wrap64 (x4 + 1))) else (if (x3.length : Int) > 0 then (if 0 ≤ (wrap64 ((x3.length : Int) - 1)) then (if (wrap64 ((x3.length : Int) - 1)) < (x3.length : Int) then (if ((rd_T41 x3 (wrap64 ((x3.length : Int) - 1))).f0) = x106000 then ((some (x3.set ((wrap64 ((x3.length : Int) - 1)) : Int).toNat (⟨(rd_T41 x3 (wrap64 ((x3.length : Int) - 1))).f0, wrap64 (((rd_T41 x3 (wrap64 ((x3.length : Int) - 1))).f1) + x106001), (rd_T41 x3 (wrap64 ((x3.length : Int) - 1))).f2⟩ : S41) : List (S41))).bind fun y108 => (if ((rd_T41 y108 (wrap64 ((x3.length : Int) - 1))).f2).size + x106002.size ≤ 9223372036854775807 then (epitomeref05_Of.l0 k x0 (y108.set ((wrap64 ((x3.length : Int) - 1)) : Int).toNat (⟨(rd_T41 y108 (wrap64 ((x3.length : Int) - 1))).f0, (rd_T41 y108 (wrap64 ((x3.length : Int) - 1))).f1, ((rd_T41 y108 (wrap64 ((x3.length : Int) - 1))).f2) ++ x106002⟩ : S41)) (wrap64 (x4 + 1))) else (none))) else (if x3.length < 4398046511104 then (epitomeref05_Of.l0 k x0 (x3 ++ [(⟨x106000, x106001, x106002⟩ : S41)]) (wrap64 (x4 + 1))) else (none))) else (none)) else (none)) else (if x3.length < 4398046511104 then (epitomeref05_Of.l0 k x0 (x3 ++ [(⟨x106000, x106001, x106002⟩ : S41)]) (wrap64 (x4 + 1))) else (none)))
end
def epitomeref05_Of.f (k : Nat) (l0 : List (S41)) : Option ((List (S41))) := epitomeref05_Of.l0 k l0 (([] : List (S41))) 0
theorem epitomeref05_Of.mono_l : ∀ k, (∀ y0 y1 y2, LeO (epitomeref05_Of.l0 k y0 y1 y2) (epitomeref05_Of.l0 (k + 1) y0 y1 y2)) ∧ (∀ y0 y1 y2 y3 y4 y5 y6, LeO (epitomeref05_Of.j1 k y0 y1 y2 y3 y4 y5 y6) (epitomeref05_Of.j1 (k + 1) y0 y1 y2 y3 y4 y5 y6))
  | 0 => ⟨fun _ _ _ r h => by simp [epitomeref05_Of.l0] at h, fun _ _ _ _ _ _ _ r h => by simp [epitomeref05_Of.j1] at h⟩
  | k + 1 => by
    obtain ⟨ih0, ih1⟩ := epitomeref05_Of.mono_l k
    refine ⟨?_, ?_⟩
    · intro y0 y1 y2
      unfold epitomeref05_Of.l0
      repeat' first
      | (with_reducible exact ih0 _ _ _)
      | (with_reducible exact ih1 _ _ _ _ _ _ _)
      | (with_reducible exact LeO.refl _)
      | (with_reducible exact LeO.none _)
      | (with_reducible refine LeO.ite ?_ ?_)
      | (with_reducible refine LeO.bind ?_ (fun _ => ?_))
      | exact ih0 _ _ _
      | exact ih1 _ _ _ _ _ _ _
      | exact LeO.none _
      | refine LeO.ite ?_ ?_
      | refine LeO.bind ?_ (fun _ => ?_)
    · intro y0 y1 y2 y3 y4 y5 y6
      unfold epitomeref05_Of.j1
      repeat' first
      | (with_reducible exact ih0 _ _ _)
      | (with_reducible exact ih1 _ _ _ _ _ _ _)
      | (with_reducible exact LeO.refl _)
      | (with_reducible exact LeO.none _)
      | (with_reducible refine LeO.ite ?_ ?_)
      | (with_reducible refine LeO.bind ?_ (fun _ => ?_))
      | exact ih0 _ _ _
      | exact ih1 _ _ _ _ _ _ _
      | exact LeO.none _
      | refine LeO.ite ?_ ?_
      | refine LeO.bind ?_ (fun _ => ?_)
theorem epitomeref05_Of.mono : ∀ a0 k, LeO (epitomeref05_Of.f k a0) (epitomeref05_Of.f (k + 1) a0) := by
  intro a0 k
  obtain ⟨ih0, ih1⟩ := epitomeref05_Of.mono_l k
  unfold epitomeref05_Of.f
  repeat' first
      | (with_reducible exact ih0 _ _ _)
      | (with_reducible exact ih1 _ _ _ _ _ _ _)
      | (with_reducible exact LeO.refl _)
      | (with_reducible exact LeO.none _)
      | (with_reducible refine LeO.ite ?_ ?_)
      | (with_reducible refine LeO.bind ?_ (fun _ => ?_))
      | exact ih0 _ _ _
      | exact ih1 _ _ _ _ _ _ _
      | exact LeO.none _
      | refine LeO.ite ?_ ?_
      | refine LeO.bind ?_ (fun _ => ?_)
def epitomeref05_Of.T8 : Bool × List (List Nat × List Nat) := (true, [([], []), ([0], [0]), ([1], [1]), ([2], [2]), ([2], [2]), ([4, 2], [2, 4]), ([3, 5, 2], [2, 3, 5]), ([6, 2], [2, 6]), ([7, 2], [2, 7]), ([2], [2]), ([9, 2], [2, 9]), ([8, 10, 2], [2, 8, 10]), ([2, 11], [2, 11])])
def epitomeref05_Of.B8 : List Nat := [0, 1, 3, 7, 7, 23, 63, 127, 255, 7, 519, 2047, 4095]
theorem epitomeref05_Of.tab8 : rtab .any (opsOf Tryd.f59 8) = epitomeref05_Of.T8 := by kernel_rfl
theorem epitomeref05_Of.bits8 : waitsOk epitomeref05_Of.T8.2 epitomeref05_Of.B8 = true := by kernel_rfl
def epitomeref05_Of.T9 : Bool × List (List Nat × List Nat) := (true, [([], []), ([], []), ([1], [1]), ([], []), ([], []), ([4], [4]), ([3, 5], [3, 5]), ([6], [6]), ([7], [7]), ([], []), ([9], [9]), ([8, 10], [8, 10]), ([0, 2, 0, 1, 2, 3, 4, 5, 6, 7, 8, 9, 10, 11], [0, 2]), ([12, 0, 1, 2, 3, 4, 5, 6, 7, 8, 9, 10, 11], [12]), ([13, 11, 0, 1, 2, 3, 4, 5, 6, 7, 8, 9, 10, 11], [11, 13])])
def epitomeref05_Of.B9 : List Nat := [0, 0, 2, 0, 0, 16, 56, 120, 248, 0, 512, 2040, 4095, 8191, 16383]
theorem epitomeref05_Of.tab9 : rtab .any (opsOf Tryd.f59 9) = epitomeref05_Of.T9 := by kernel_rfl
theorem epitomeref05_Of.bits9 : waitsOk epitomeref05_Of.T9.2 epitomeref05_Of.B9 = true := by kernel_rfl
def epitomeref05_Of.T10 : Bool × List (List Nat × List Nat) := (true, [([], []), ([], []), ([1], [1]), ([], []), ([], []), ([4], [4]), ([3, 5], [3, 5]), ([6], [6]), ([7], [7]), ([], []), ([9], [9]), ([8, 10], [8, 10]), ([0, 2, 0, 1, 2, 3, 4, 5, 6, 7, 8, 9, 10, 11], [0, 2]), ([12, 0, 1, 2, 3, 4, 5, 6, 7, 8, 9, 10, 11], [12]), ([13, 11, 0, 1, 2, 3, 4, 5, 6, 7, 8, 9, 10, 11], [11, 13])])
def epitomeref05_Of.B10 : List Nat := [0, 0, 2, 0, 0, 16, 56, 120, 248, 0, 512, 2040, 4095, 8191, 16383]
theorem epitomeref05_Of.tab10 : rtab .any (opsOf Tryd.f59 10) = epitomeref05_Of.T10 := by kernel_rfl
theorem epitomeref05_Of.bits10 : waitsOk epitomeref05_Of.T10.2 epitomeref05_Of.B10 = true := by kernel_rfl
set_option maxHeartbeats 40000000 in
set_option maxRecDepth 100000 in
theorem epitomeref05_Of.calls (k : Nat) (A0 : Option Addr) (c0 : Nat) (l0 : List (S41)) (r : List (S41)) (w : World) (hr0 : Kd.C k41 w A0 l0.length l0) (hc0 : l0.length ≤ c0) (h : epitomeref05_Of.f k l0 = some r) :
  Calls Tryd.prog 59 #[.slice A0 l0.length c0] w fun e w' => ∃ v0_ : Value, e = .returned (v0_) ∧ Kd.R k41 41 w' w.heap.size (fun _ => True) v0_ r ∧ Below w.heap.size w w' := by
 have hu41 := Tryd.underlying41
 have HR0 := Am hr0;have HC0 := Am hc0;clear hr0 hc0;have HB := Am (Below.refl w.heap.size w)
 have H : (epitomeref05_Of.l0 k l0 (([] : List (S41))) 0) = some r := h
 clear h;obtain ⟨y101, hy101⟩ : ∃ y_ : List (S41), y_ = (([] : List (S41))) := ⟨_, rfl⟩
 replace H : (epitomeref05_Of.l0 k l0 y101 0) = some r := by first | (rw [hy101]; with_reducible exact H) | (have H2_ := (Option.bind_some _ _).symm.trans H; rw [hy101]; with_reducible exact H2_) | (have H2_ := (Option.bind_some _ _).symm.trans H; with_reducible exact H2_) | with_reducible exact H | (rw [hy101]; exact H) | exact H
 have Ny101 := Am hy101;clear hy101;have H' := Am H
 clear H;go_enter Tryd.func59, Tryd.ntmps59
 go_wp2_with (first | ((with_reducible refine gate_dst (N := 7) rfl ?_); refine R_lit k41 _ 41 ?hg (N := 7) ?hd (xs := ([] : List (S41))) (inner := []) (ok := fun _ => True) (okp := fun _ => True) ?hr ?hp (fun _ hk => hk) trivial (Below.refl _ _) (Nat.le_refl _) (by simp) ?_; (case hd => rfl); (case hg => rfl); (case hr => first | (go_simp; done) | (go_simp; rfl)); (case hp => exact (Reps.none _ _)); intro v102 w2 ho3 hb hg_ hnew_; clear hg_ hnew_; (first | rw [← Ny101.out] at ho3 | (simp only [Int.reduceToNat] at ho3; rw [← Ny101.out] at ho3)); have HO103 := Am (R_lower ho3 (below_size (zB HB)));replace HB := Am (below_step (zB HB) hb); clear hb ho3))
 go_loopg [3, 4] k (fun kq v3 v4 w' => ∃ (x3_1 : List (S41)) (x4_1 : Int), v4 = .int .i64 x4_1 ∧ Aside0 (epitomeref05_Of.l0 kq l0 x3_1 x4_1 = some r) ∧ Aside0 (kq ≤ k) ∧ Aside0 (Kd.R k41 41 w' w.heap.size (fun _ => True) v3 x3_1) ∧ Aside0 (Below w.heap.size w w'))
 case atStart => exact ⟨(y101), (0), zG, H', ⟨Nat.le_refl _⟩, ⟨(zR HO103)⟩, ⟨(zB HB)⟩⟩
 case round =>
  clear H';(try clear p2);obtain ⟨x3_1, x4_1, rfl, HA, HK1, HO_3, HB⟩ := hrel
  cases gk with
  | zero => exact absurd HA.out (by simp [epitomeref05_Of.l0])
  | succ k1 =>
   have H := HA.out;clear HA;simp only [epitomeref05_Of.l0] at H
   by_cases c4 : x4_1 < (l0.length : Int)
   ·rw [if_pos c4] at H;have c4b0 : decide (x4_1 < (l0.length : Int)) = true := decide_eq_true c4
    clear c4;by_cases c5 : 0 ≤ x4_1
    ·rw [if_pos c5] at H;have c5b0 : decide (0 ≤ x4_1) = true := decide_eq_true c5
     clear c5;have HC6 := Am H;clear H;have p104 : 0 ≤ (x4_1 : Int) := of_decide_eq_true (by assumption)
     have q104 : x4_1 < (l0.length : Int) := of_decide_eq_true (by assumption)
     obtain ⟨ad104, e104, hx104_0, hx104_1, hx104_2⟩ := at_T41 HR0.out x4_1 p104 q104
     cases e104
     replace hx104_0 := (HB.out.cell (World.block_lt_of_cell? w _ hx104_0)).trans hx104_0
     replace hx104_1 := (HB.out.cell (World.block_lt_of_cell? w _ hx104_1)).trans hx104_1
     replace hx104_2 := (HB.out.cell (World.block_lt_of_cell? w _ hx104_2)).trans hx104_2
     replace p104 := eq_true p104;replace q104 := eq_true q104;go_upto_region 6 with (first | ((with_reducible refine gate_dst (N := 5) rfl ?_); refine box_event ?hg (N := 5) ?hd (cs := #[.int .i64 0, .int .i64 0, .string (⟨#[]⟩ : ByteArray)]) (t := 41) ?hr ?_; (case hd => rfl); (case hg => rfl); (case hr => first | (go_simp; done) | (go_simp; rfl)); intro gb105 hg w7 hbox hb; replace HO_3 := Am (R_below (R_elderB (zR HO_3) gb105 (Nat.le_of_eq hg.symm)) hb);have BK105 := Am (hbox);have GW105 := Am (zO (w := w) HB hg);have GE105 := Am (zO (w := w) HB hg);replace HB := Am (below_step (zB HB) hb); clear hb hbox hg; obtain ⟨hcz8_0, hcz8_1, hcz8_2, hfz8_0, hfz8_1, hfz8_2⟩ := zc3 BK105))
     (try simp only [Act.put, zS])
     go_cut [25] (fun v25 wc => ∃ (kq : Nat) (x25_5 : Bool), v25 = .bool x25_5 ∧ Aside0 (epitomeref05_Of.j1 kq l0 x3_1 x4_1 x25_5 ((rd_T41 l0 x4_1).f0) ((rd_T41 l0 x4_1).f1) ((rd_T41 l0 x4_1).f2) = some r) ∧ Aside0 (kq ≤ k1) ∧ Aside0 (Kd.R k41 41 wc w.heap.size (fun k_ => k_ ≠ gb105) u3 x3_1) ∧ Aside0 (wc.heap[gb105]? = some (.cells #[.int .i64 ((rd_T41 l0 x4_1).f0), .int .i64 ((rd_T41 l0 x4_1).f1), .string ((rd_T41 l0 x4_1).f2)] 41 (0, 0))) ∧ Aside0 (Below w.heap.size w wc))
     case first =>
      have H := HC6.out;clear HC6;by_cases c9 : ((rd_T41 l0 x4_1).f1) = 0
      ·rw [if_pos c9] at H;have c9b0 : (((rd_T41 l0 x4_1).f1) == 0) = true := beq_iff_eq.mpr c9
       have c9b1 : (((rd_T41 l0 x4_1).f1) != 0) = false := bne_eq_false_iff_eq.mpr c9
       clear c9;(first | rw [c9b0] | (simp only [i64_w, i32_w]; rw [c9b0]) | skip)
       have H' := Am H
       clear H;obtain ⟨hcz10_0, hcz10_1, hcz10_2, hfz10_0, hfz10_1, hfz10_2⟩ := zc3 BK105;go_wp2
       go_meet
       case rel => exact ⟨_, ((((rd_T41 l0 x4_1).f2).toList == ([] : List UInt8))), zG, H', ⟨by have := HK1.out; first | omega | exact Nat.le_refl _⟩, ⟨by (with_reducible repeat (first | apply zA.a | apply zA.n | apply zA.d)); exact R_mono (zY (R_mono HO_3.out (fun k_ hk => (⟨hk, hk.2⟩ : _ ∧ k_ ≠ gb105))) gb105 (fun _ hk => hk.2) (.int .i64 ((rd_T41 l0 x4_1).f0)) (.int .i64 ((rd_T41 l0 x4_1).f1)) (.string ((rd_T41 l0 x4_1).f2))) (fun _ hk => hk.1.2)⟩, ⟨(zP BK105)⟩, ⟨(zB HB)⟩⟩
      ·rw [if_neg c9] at H;have c9b0 : (((rd_T41 l0 x4_1).f1) == 0) = false := beq_eq_false_iff_ne.mpr c9
       have c9b1 : (((rd_T41 l0 x4_1).f1) != 0) = true := bne_iff_ne.mpr c9
       (first | rw [c9b0] | (simp only [i64_w, i32_w]; rw [c9b0]) | skip)
       have H' := Am H
       clear H;obtain ⟨hcz11_0, hcz11_1, hcz11_2, hfz11_0, hfz11_1, hfz11_2⟩ := zc3 BK105;go_wp2
       go_meet
       case rel => exact ⟨_, (false), zG, H', ⟨by have := HK1.out; first | omega | exact Nat.le_refl _⟩, ⟨by (with_reducible repeat (first | apply zA.a | apply zA.n | apply zA.d)); exact R_mono (zY (R_mono HO_3.out (fun k_ hk => (⟨hk, hk.2⟩ : _ ∧ k_ ≠ gb105))) gb105 (fun _ hk => hk.2) (.int .i64 ((rd_T41 l0 x4_1).f0)) (.int .i64 ((rd_T41 l0 x4_1).f1)) (.string ((rd_T41 l0 x4_1).f2))) (fun _ hk => hk.1.2)⟩, ⟨(zP BK105)⟩, ⟨(zB HB)⟩⟩
     case rest =>
      clear HC6;(try clear p1);(try clear q1);(try clear hx1);(try clear p2);(try clear c4);(try clear c4b0);(try clear c5);(try clear c5b0);(try clear c9);(try clear c9b0);(try clear c9b1);(try clear p10);(try clear q10);(try clear hx10);(try clear hcz10_0);(try clear hcz10_1);(try clear hcz10_2);(try clear hcz11_0);(try clear hcz11_1);(try clear hcz11_2);(try clear hcz8_0);(try clear hcz8_1);(try clear hcz8_2);(try clear hfz10_0);(try clear hfz10_1);(try clear hfz10_2);(try clear hfz11_0);(try clear hfz11_1);(try clear hfz11_2);(try clear hfz8_0);(try clear hfz8_1);(try clear hfz8_2);(try clear hx104_0);(try clear hx104_1);(try clear hx104_2);(try clear p104);(try clear p2);(try clear q104);obtain ⟨kq, x25_5, rfl, HA, HJ5, HO_3, BK105, HB⟩ := hcut
      cases kq with
      | zero => exact absurd HA.out (by simp [epitomeref05_Of.j1])
      | succ kj5 =>
       have H := HA.out;clear HA;simp only [epitomeref05_Of.j1] at H
       by_cases c12 : x25_5 = true
       ·subst c12
        have H1 : (epitomeref05_Of.l0 kj5 l0 x3_1 (wrap64 (x4_1 + 1))) = some r := by rw [if_pos rfl] at H; exact H
        clear H;have H := H1
        clear H1;have H' := Am H
        clear H;go_wp2
        go_roundg kj5
        case measure => have := HK1.out; have := HJ5.out; omega
        case rel => exact ⟨(x3_1), (wrap64 (x4_1 + 1)), zG, H', ⟨by have := HK1.out; have := HJ5.out; omega⟩, ⟨by (with_reducible repeat (first | apply zA.a | apply zA.n | apply zA.d)); exact R_mono HO_3.out (fun _ hk => trivial)⟩, ⟨(zB HB)⟩⟩
       ·replace c12 := Bool.eq_false_iff.mpr c12
        subst c12
        have H1 : (if (x3_1.length : Int) > 0 then (if 0 ≤ (wrap64 ((x3_1.length : Int) - 1)) then (if (wrap64 ((x3_1.length : Int) - 1)) < (x3_1.length : Int) then (if ((rd_T41 x3_1 (wrap64 ((x3_1.length : Int) - 1))).f0) = ((rd_T41 l0 x4_1).f0) then ((some (x3_1.set ((wrap64 ((x3_1.length : Int) - 1)) : Int).toNat (⟨(rd_T41 x3_1 (wrap64 ((x3_1.length : Int) - 1))).f0, wrap64 (((rd_T41 x3_1 (wrap64 ((x3_1.length : Int) - 1))).f1) + ((rd_T41 l0 x4_1).f1)), (rd_T41 x3_1 (wrap64 ((x3_1.length : Int) - 1))).f2⟩ : S41) : List (S41))).bind fun y108 => (if ((rd_T41 y108 (wrap64 ((x3_1.length : Int) - 1))).f2).size + ((rd_T41 l0 x4_1).f2).size ≤ 9223372036854775807 then (epitomeref05_Of.l0 kj5 l0 (y108.set ((wrap64 ((x3_1.length : Int) - 1)) : Int).toNat (⟨(rd_T41 y108 (wrap64 ((x3_1.length : Int) - 1))).f0, (rd_T41 y108 (wrap64 ((x3_1.length : Int) - 1))).f1, ((rd_T41 y108 (wrap64 ((x3_1.length : Int) - 1))).f2) ++ ((rd_T41 l0 x4_1).f2)⟩ : S41)) (wrap64 (x4_1 + 1))) else (none))) else (if x3_1.length < 4398046511104 then (epitomeref05_Of.l0 kj5 l0 (x3_1 ++ [(⟨((rd_T41 l0 x4_1).f0), ((rd_T41 l0 x4_1).f1), ((rd_T41 l0 x4_1).f2)⟩ : S41)]) (wrap64 (x4_1 + 1))) else (none))) else (none)) else (none)) else (if x3_1.length < 4398046511104 then (epitomeref05_Of.l0 kj5 l0 (x3_1 ++ [(⟨((rd_T41 l0 x4_1).f0), ((rd_T41 l0 x4_1).f1), ((rd_T41 l0 x4_1).f2)⟩ : S41)]) (wrap64 (x4_1 + 1))) else (none))) = some r := by rw [if_neg (show ¬ (false = true) by decide)] at H; exact H
        clear H;have H := H1
        clear H1;by_cases c13 : (x3_1.length : Int) > 0
        ·rw [if_pos c13] at H;have c13b0 : decide (0 < (x3_1.length : Int)) = true := decide_eq_true c13
         have c13b1 : decide (0 < x3_1.length) = true := decide_eq_true (by omega)
         clear c13;obtain ⟨ji14, hji14⟩ : ∃ j_ : Int, (wrap64 ((x3_1.length : Int) - 1)) = j_ := ⟨_, rfl⟩
         replace H : (if 0 ≤ (ji14) then (if (ji14) < (x3_1.length : Int) then (if ((rd_T41 x3_1 (ji14)).f0) = ((rd_T41 l0 x4_1).f0) then ((some (x3_1.set ((ji14) : Int).toNat (⟨(rd_T41 x3_1 (ji14)).f0, wrap64 (((rd_T41 x3_1 (ji14)).f1) + ((rd_T41 l0 x4_1).f1)), (rd_T41 x3_1 (ji14)).f2⟩ : S41) : List (S41))).bind fun y108 => (if ((rd_T41 y108 (ji14)).f2).size + ((rd_T41 l0 x4_1).f2).size ≤ 9223372036854775807 then (epitomeref05_Of.l0 kj5 l0 (y108.set ((ji14) : Int).toNat (⟨(rd_T41 y108 (ji14)).f0, (rd_T41 y108 (ji14)).f1, ((rd_T41 y108 (ji14)).f2) ++ ((rd_T41 l0 x4_1).f2)⟩ : S41)) (wrap64 (x4_1 + 1))) else (none))) else (if x3_1.length < 4398046511104 then (epitomeref05_Of.l0 kj5 l0 (x3_1 ++ [(⟨((rd_T41 l0 x4_1).f0), ((rd_T41 l0 x4_1).f1), ((rd_T41 l0 x4_1).f2)⟩ : S41)]) (wrap64 (x4_1 + 1))) else (none))) else (none)) else (none)) = some r := by first | (rw [hji14] at H; exact H) | (simp only [hji14] at H ⊢; exact H)
         have hji14w : (IntKind.i64.wrap ((x3_1.length : Int) - 1)) = ji14 := (i64_w _).trans hji14
         by_cases c15 : 0 ≤ (ji14)
         ·rw [if_pos c15] at H;have c15b0 : decide (0 ≤ (ji14)) = true := decide_eq_true c15
          clear c15;by_cases c16 : (ji14) < (x3_1.length : Int)
          ·rw [if_pos c16] at H;have c16b0 : decide ((ji14) < (x3_1.length : Int)) = true := decide_eq_true c16
           clear c16;by_cases c17 : ((rd_T41 x3_1 (ji14)).f0) = ((rd_T41 l0 x4_1).f0)
           ·rw [if_pos c17] at H;have c17b0 : (((rd_T41 x3_1 (ji14)).f0) == ((rd_T41 l0 x4_1).f0)) = true := beq_iff_eq.mpr c17
            have c17b1 : (((rd_T41 x3_1 (ji14)).f0) != ((rd_T41 l0 x4_1).f0)) = false := bne_eq_false_iff_eq.mpr c17
            clear c17;obtain ⟨y108, hy108⟩ : ∃ y_ : List (S41), y_ = (x3_1.set ((ji14) : Int).toNat (⟨(rd_T41 x3_1 (ji14)).f0, wrap64 (((rd_T41 x3_1 (ji14)).f1) + ((rd_T41 l0 x4_1).f1)), (rd_T41 x3_1 (ji14)).f2⟩ : S41)) := ⟨_, rfl⟩
            replace H : (if ((rd_T41 y108 (ji14)).f2).size + ((rd_T41 l0 x4_1).f2).size ≤ 9223372036854775807 then (epitomeref05_Of.l0 kj5 l0 (y108.set ((ji14) : Int).toNat (⟨(rd_T41 y108 (ji14)).f0, (rd_T41 y108 (ji14)).f1, ((rd_T41 y108 (ji14)).f2) ++ ((rd_T41 l0 x4_1).f2)⟩ : S41)) (wrap64 (x4_1 + 1))) else (none)) = some r := by first | (rw [hy108]; with_reducible exact H) | (have H2_ := (Option.bind_some _ _).symm.trans H; rw [hy108]; with_reducible exact H2_) | (have H2_ := (Option.bind_some _ _).symm.trans H; with_reducible exact H2_) | with_reducible exact H | (rw [hy108]; exact H) | exact H
            have Ny108 := Am hy108;clear hy108;by_cases c19 : ((rd_T41 y108 (ji14)).f2).size + ((rd_T41 l0 x4_1).f2).size ≤ 9223372036854775807
            ·rw [if_pos c19] at H;have c19b0 := eq_true c19
             have c19b1 : decide (((rd_T41 y108 (ji14)).f2).size + ((rd_T41 l0 x4_1).f2).size ≤ 9223372036854775807) = true := decide_eq_true c19
             try have c19b2 : (9223372036854775807 < ((rd_T41 y108 (ji14)).f2).size + ((rd_T41 l0 x4_1).f2).size) = False := eq_false (Nat.not_lt.2 c19)
             obtain ⟨y110, hy110⟩ : ∃ y_ : List (S41), y_ = (y108.set ((ji14) : Int).toNat (⟨(rd_T41 y108 (ji14)).f0, (rd_T41 y108 (ji14)).f1, ((rd_T41 y108 (ji14)).f2) ++ ((rd_T41 l0 x4_1).f2)⟩ : S41)) := ⟨_, rfl⟩
             replace H : (epitomeref05_Of.l0 kj5 l0 y110 (wrap64 (x4_1 + 1))) = some r := by first | (rw [hy110]; with_reducible exact H) | (have H2_ := (Option.bind_some _ _).symm.trans H; rw [hy110]; with_reducible exact H2_) | (have H2_ := (Option.bind_some _ _).symm.trans H; with_reducible exact H2_) | with_reducible exact H | (rw [hy110]; exact H) | exact H
             have Ny110 := Am hy110;clear hy110;have H' := Am H
             clear H;obtain ⟨Ao21, co21, eo21⟩ := R_slice HO_3.out
             subst eo21
             try go_wp2
             replace HO_3 := Am (R_drew HO_3.out);replace BK105 := Am (blk_drew BK105.out);replace HB := Am (below_drew1 HB.out);have p106 : 0 ≤ ((ji14) : Int) := of_decide_eq_true (by assumption)
             have q106 : (ji14) < (x3_1.length : Int) := of_decide_eq_true (by assumption)
             obtain ⟨ad106, e106, hx106_0, hx106_1, hx106_2⟩ := at_T41 (R_reads' HO_3.out).2.2 (ji14) p106 q106
             cases e106
             replace p106 := eq_true p106;replace q106 := eq_true q106;refine start_ (n := 13) (S := fun w' => w'.cell? ⟨gb105, 0, none⟩ = some (.int .i64 ((rd_T41 l0 x4_1).f0)) ∧ w'.cell? ⟨gb105, 1, none⟩ = some (.int .i64 ((rd_T41 l0 x4_1).f1)) ∧ w'.cell? ⟨gb105, 2, none⟩ = some (.string ((rd_T41 l0 x4_1).f2)) ∧ w'.cell? (ad106.add (((ji14)).toNat * 3)) = some (.int .i64 ((rd_T41 x3_1 (ji14)).f0)) ∧ w'.cell? ⟨(ad106.add (((ji14)).toNat * 3)).block, (ad106.add (((ji14)).toNat * 3)).off + 1, none⟩ = some (.int .i64 ((rd_T41 x3_1 (ji14)).f1)) ∧ w'.cell? ⟨(ad106.add (((ji14)).toNat * 3)).block, (ad106.add (((ji14)).toNat * 3)).off + 2, none⟩ = some (.string ((rd_T41 x3_1 (ji14)).f2))) (ds := []) #[false, false, false, false, false, false, false, false, false, false, false, false, false] (by kernel_rfl) rfl rfl ⟨(blk_cell BK105.out 0).trans rfl, (blk_cell BK105.out 1).trans rfl, (blk_cell BK105.out 2).trans rfl, hx106_0, hx106_1, hx106_2⟩ (fun hHeld => ?_); refine with_tabW epitomeref05_Of.tab8 epitomeref05_Of.bits8 (fun HT_ HW_ => ?_)
             generalize wc.drew = w22 at HO_3 BK105 HB hx106_0 hx106_1 hx106_2 hHeld ⊢
             refine pure_ (i := 0) (N := some 28) (v := ?_) (a' := ?_) #[true, false, false, false, false, false, false, false, false, false, false, false, false] rfl rfl (any_of HT_.out (by kernel_rfl)) (fun _ _ _ h => h) (Or.inl ⟨by rfl, ?_⟩) ?_ ?_
             rotate_left
             ·intro w'
              go_simp;with_reducible rfl
             rotate_left
             ·simp only [Act.put, zS, i64_w, i32_w]
              rfl
             refine pure_ (i := 1) (N := some 29) (v := ?_) (a' := ?_) #[true, true, false, false, false, false, false, false, false, false, false, false, false] rfl rfl (any_of HT_.out (by kernel_rfl)) (fun _ _ _ h => h) (Or.inl ⟨by rfl, ?_⟩) ?_ ?_
             rotate_left
             ·intro w'
              go_simp;with_reducible rfl
             rotate_left
             ·simp only [Act.put, zS, i64_w, i32_w]
              rfl
             refine pure_ (i := 2) (N := some 30) (v := ?_) (a' := ?_) #[true, true, true, false, false, false, false, false, false, false, false, false, false] rfl rfl (any_of HT_.out (by kernel_rfl)) (fun _ _ _ h => h) (Or.inl ⟨by rfl, ?_⟩) ?_ ?_
             rotate_left
             ·intro w'
              go_simp;with_reducible rfl
             rotate_left
             ·simp only [Act.put, zS, i64_w, i32_w]
              rfl
             refine pure_ (i := 3) (N := some 31) (v := ?_) (a' := ?_) #[true, true, true, true, false, false, false, false, false, false, false, false, false] rfl rfl (any_of HT_.out (by kernel_rfl)) (fun _ _ _ h => h) (Or.inl ⟨by rfl, ?_⟩) ?_ ?_
             rotate_left
             ·intro w'
              go_simp;with_reducible rfl
             rotate_left
             ·simp only [Act.put, zS, i64_w, i32_w]
              rfl
             refine pure_ (i := 4) (N := some 32) (v := ?_) (a' := ?_) #[true, true, true, true, true, false, false, false, false, false, false, false, false] rfl rfl (any_of HT_.out (by kernel_rfl)) (fun _ _ _ h => h) (Or.inl ⟨by rfl, ?_⟩) ?_ ?_
             rotate_left
             ·intro w'
              go_simp;with_reducible rfl
             rotate_left
             ·simp only [Act.put, zS, i64_w, i32_w]
              rfl
             refine pure_ (i := 5) (N := some 33) (v := ?_) (a' := ?_) #[true, true, true, true, true, true, false, false, false, false, false, false, false] rfl rfl (any_of HT_.out (by kernel_rfl)) (fun _ _ _ h => h) (Or.inl ⟨by rfl, ?_⟩) ?_ ?_
             rotate_left
             ·intro w'
              go_simp;with_reducible rfl
             rotate_left
             ·simp only [Act.put, zS, i64_w, i32_w]
              rfl
             refine pure_ (i := 6) (N := some 34) (v := ?_) (a' := ?_) #[true, true, true, true, true, true, true, false, false, false, false, false, false] rfl rfl (any_of HT_.out (by kernel_rfl)) (fun _ _ _ h => h) (Or.inl ⟨by rfl, ?_⟩) ?_ ?_
             rotate_left
             ·intro w'
              go_simp;with_reducible rfl
             rotate_left
             ·simp only [Act.put, zS, i64_w, i32_w]
              rfl
             refine pure_ (i := 7) (N := some 35) (v := ?_) (a' := ?_) #[true, true, true, true, true, true, true, true, false, false, false, false, false] rfl rfl (any_of HT_.out (by kernel_rfl)) (fun _ _ _ h => h) (Or.inl ⟨by rfl, ?_⟩) ?_ ?_
             rotate_left
             ·intro w'
              go_simp;with_reducible rfl
             rotate_left
             ·simp only [Act.put, zS, i64_w, i32_w]
              rfl
             refine pure_ (i := 9) (N := some 37) (v := ?_) (a' := ?_) #[true, true, true, true, true, true, true, true, false, true, false, false, false] rfl rfl (any_of HT_.out (by kernel_rfl)) (fun _ _ _ h => h) (Or.inl ⟨by rfl, ?_⟩) ?_ ?_
             rotate_left
             ·intro w'
              go_simp;with_reducible rfl
             rotate_left
             ·simp only [Act.put, zS, i64_w, i32_w]
              rfl
             refine take_ (i := 8) (N := some 36) (v := ?_) (a' := ?_) #[true, true, true, true, true, true, true, true, true, true, false, false, false] rfl rfl (take_ofW HT_.out HW_.out (by kernel_rfl)) (fun _ _ _ h => h) (Or.inl ⟨by rfl, ?_⟩) hHeld ?_ ?_
             rotate_left
             ·rintro w' ⟨s0, s1, s2, s3, s4, s5⟩
              go_simp;with_reducible rfl
             rotate_left
             ·simp only [Act.put, zS, i64_w, i32_w]
              rfl
             refine take_ (i := 10) (N := some 38) (v := ?_) (a' := ?_) #[true, true, true, true, true, true, true, true, true, true, true, false, false] rfl rfl (take_ofW HT_.out HW_.out (by kernel_rfl)) (fun _ _ _ h => h) (Or.inl ⟨by rfl, ?_⟩) hHeld ?_ ?_
             rotate_left
             ·rintro w' ⟨s0, s1, s2, s3, s4, s5⟩
              go_simp;with_reducible rfl
             rotate_left
             ·simp only [Act.put, zS, i64_w, i32_w]
              rfl
             refine pure_ (i := 11) (N := some 39) (v := ?_) (a' := ?_) #[true, true, true, true, true, true, true, true, true, true, true, true, false] rfl rfl (any_of HT_.out (by kernel_rfl)) (fun _ _ _ h => h) (Or.inl ⟨by rfl, ?_⟩) ?_ ?_
             rotate_left
             ·intro w'
              go_simp;with_reducible rfl
             rotate_left
             ·simp only [Act.put, zS, i64_w, i32_w]
              rfl
             refine pure_ (i := 12) (N := some 40) (v := ?_) (a' := ?_) #[true, true, true, true, true, true, true, true, true, true, true, true, true] rfl rfl (any_of HT_.out (by kernel_rfl)) (fun _ _ _ h => h) (Or.inl ⟨by rfl, ?_⟩) ?_ ?_
             rotate_left
             ·intro w'
              go_simp;with_reducible rfl
             rotate_left
             ·simp only [Act.put, zS, i64_w, i32_w]
              rfl
             refine done_ (done_of HT_.out (by kernel_rfl)) ?_
             try go_wp2
             replace HO_3 := Am (R_drew HO_3.out);replace BK105 := Am (blk_drew BK105.out);replace HB := Am (below_drew1 HB.out);have p107 : 0 ≤ ((ji14) : Int) := of_decide_eq_true (by assumption)
             have q107 : (ji14) < (x3_1.length : Int) := of_decide_eq_true (by assumption)
             obtain ⟨ad107, e107, hx107_0, hx107_1, hx107_2⟩ := at_T41 (R_reads' HO_3.out).2.2 (ji14) p107 q107
             obtain rfl : ad106 = ad107 := (by injection e107)
             replace p107 := eq_true p107;replace q107 := eq_true q107;have p18 : 0 ≤ ((ji14) : Int) := of_decide_eq_true (by assumption)
             have q18 : ((ji14) : Int) < ((x3_1.length : Int) : Int) := of_decide_eq_true (by assumption)
             obtain ⟨go18, co18, eo18, gb18, gl18, cl18, HG18⟩ := R_form HO_3.out (by omega)
             (first | cases eo18 | (injection eo18 with ea_ en_ ec_; (first | subst ea_ | (injection ea_ with ea_; subst ea_)); subst ec_; clear en_))
             have GB18 := Am gb18;have GG18 := Am HG18;clear gb18 gl18 HG18;(first | simp only [add_plain] at hx106_0 | skip)
             (first | simp only [add_plain] at hx106_1 | skip)
             (first | simp only [add_plain] at hx106_2 | skip)
             (first | simp only [add_plain] at hx107_0 | skip)
             (first | simp only [add_plain] at hx107_1 | skip)
             (first | simp only [add_plain] at hx107_2 | skip)
             obtain ⟨ce18, hcl18, hM18, hcc18, hfr18⟩ := R_elem HO_3.out z41 ((ji14) : Int) p18 q18
             obtain rfl := k41_openM hM18
             have hx18_0 : World.cell? _ ⟨go18, ((ji14) : Int).toNat * 3, none⟩ = some (.int .i64 ((rd_T41 x3_1 (ji14)).f0)) := hcc18 0 _ rfl
             have hx18_1 : World.cell? _ ⟨go18, ((ji14) : Int).toNat * 3 + 1, none⟩ = some (.int .i64 ((rd_T41 x3_1 (ji14)).f1)) := hcc18 1 _ rfl
             have hx18_2 : World.cell? _ ⟨go18, ((ji14) : Int).toNat * 3 + 2, none⟩ = some (.string ((rd_T41 x3_1 (ji14)).f2)) := hcc18 2 _ rfl
             have hf18_0 : World.frozen? _ ⟨go18, ((ji14) : Int).toNat * 3, none⟩ = false := hfr18 0
             have hf18_1 : World.frozen? _ ⟨go18, ((ji14) : Int).toNat * 3 + 1, none⟩ = false := hfr18 1
             have hf18_2 : World.frozen? _ ⟨go18, ((ji14) : Int).toNat * 3 + 2, none⟩ = false := hfr18 2
             clear hcl18 hcc18 hfr18 hM18;replace p18 := eq_true p18;replace q18 := eq_true q18;obtain ⟨ce24, hcl24, hM24, hcc24, hfr24⟩ := R_elem HO_3.out z41 ((ji14) : Int) (of_decide_eq_true (by assumption)) (by have h_ : ((ji14) : Int) < ((x3_1.length : Int) : Int) := of_decide_eq_true (by assumption); first | exact h_ | (have e_ := (R_reads' HO_3.out).1; omega) | simpa using h_)
             obtain rfl := k41_openM hM24
             have HP24 := (R_seg HO_3.out ((ji14) : Int) (of_decide_eq_true (by assumption)) (by have h_ : ((ji14) : Int) < ((x3_1.length : Int) : Int) := of_decide_eq_true (by assumption); first | exact h_ | (have e_ := (R_reads' HO_3.out).1; omega) | simpa using h_) (seg := [.int .i64 (wrap64 (((rd_T41 x3_1 (ji14)).f1) + ((rd_T41 l0 x4_1).f1)))]) (j := 1) hcl24 hcc24 (show 2 ≤ 3 from by decide) (x' := (⟨(rd_T41 x3_1 (ji14)).f0, wrap64 (((rd_T41 x3_1 (ji14)).f1) + ((rd_T41 l0 x4_1).f1)), (rd_T41 x3_1 (ji14)).f2⟩ : S41)) (k41_mkM _ _ _ (⟨(rd_T41 x3_1 (ji14)).f0, wrap64 (((rd_T41 x3_1 (ji14)).f1) + ((rd_T41 l0 x4_1).f1)), (rd_T41 x3_1 (ji14)).f2⟩ : S41) ) (fun _ hk => hk)).1
             rw [← Ny108.out] at HP24
             have HQ24 := Am HP24;clear hcl24 hcc24 hfr24 hM24 HP24;refine start_ (n := 15) (S := fun w' => w'.cell? ⟨gb105, 0, none⟩ = some (.int .i64 ((rd_T41 l0 x4_1).f0)) ∧ w'.cell? ⟨gb105, 1, none⟩ = some (.int .i64 ((rd_T41 l0 x4_1).f1)) ∧ w'.cell? ⟨gb105, 2, none⟩ = some (.string ((rd_T41 l0 x4_1).f2)) ∧ w'.cell? ⟨go18, ((ji14)).toNat * 3, none⟩ = some (.int .i64 ((rd_T41 x3_1 (ji14)).f0)) ∧ w'.cell? ⟨go18, ((ji14)).toNat * 3 + 1, none⟩ = some (.int .i64 ((rd_T41 x3_1 (ji14)).f1)) ∧ w'.cell? ⟨go18, ((ji14)).toNat * 3 + 2, none⟩ = some (.string ((rd_T41 x3_1 (ji14)).f2))) (ds := [14]) #[false, false, false, false, false, false, false, false, false, false, false, false, false, false, false] (by kernel_rfl) rfl rfl ⟨(blk_cell BK105.out 0).trans rfl, (blk_cell BK105.out 1).trans rfl, (blk_cell BK105.out 2).trans rfl, hx107_0, hx107_1, hx107_2⟩ (fun hHeld => ?_); refine with_tabW epitomeref05_Of.tab9 epitomeref05_Of.bits9 (fun HT_ HW_ => ?_)
             generalize w22.drew = w23 at HO_3 BK105 HB GG18 HQ24 hf18_0 hf18_1 hf18_2 hx106_0 hx106_1 hx106_2 hx107_0 hx107_1 hx107_2 hx18_0 hx18_1 hx18_2 hHeld ⊢
             refine pure_ (i := 0) (N := some 41) (v := ?_) (a' := ?_) #[true, false, false, false, false, false, false, false, false, false, false, false, false, false, false] rfl rfl (any_of HT_.out (by kernel_rfl)) (fun _ _ _ h => h) (Or.inl ⟨by rfl, ?_⟩) ?_ ?_
             rotate_left
             ·intro w'
              go_simp;with_reducible rfl
             rotate_left
             ·simp only [Act.put, zS, i64_w, i32_w]
              rfl
             refine pure_ (i := 1) (N := some 42) (v := ?_) (a' := ?_) #[true, true, false, false, false, false, false, false, false, false, false, false, false, false, false] rfl rfl (any_of HT_.out (by kernel_rfl)) (fun _ _ _ h => h) (Or.inl ⟨by rfl, ?_⟩) ?_ ?_
             rotate_left
             ·intro w'
              go_simp;with_reducible rfl
             rotate_left
             ·simp only [Act.put, zS, i64_w, i32_w]
              rfl
             refine pure_ (i := 2) (N := some 43) (v := ?_) (a' := ?_) #[true, true, true, false, false, false, false, false, false, false, false, false, false, false, false] rfl rfl (any_of HT_.out (by kernel_rfl)) (fun _ _ _ h => h) (Or.inl ⟨by rfl, ?_⟩) ?_ ?_
             rotate_left
             ·intro w'
              go_simp;with_reducible rfl
             rotate_left
             ·simp only [Act.put, zS, i64_w, i32_w]
              rfl
             refine pure_ (i := 3) (N := some 44) (v := ?_) (a' := ?_) #[true, true, true, true, false, false, false, false, false, false, false, false, false, false, false] rfl rfl (any_of HT_.out (by kernel_rfl)) (fun _ _ _ h => h) (Or.inl ⟨by rfl, ?_⟩) ?_ ?_
             rotate_left
             ·intro w'
              go_simp;with_reducible rfl
             rotate_left
             ·simp only [Act.put, zS, i64_w, i32_w]
              rfl
             refine pure_ (i := 4) (N := some 45) (v := ?_) (a' := ?_) #[true, true, true, true, true, false, false, false, false, false, false, false, false, false, false] rfl rfl (any_of HT_.out (by kernel_rfl)) (fun _ _ _ h => h) (Or.inl ⟨by rfl, ?_⟩) ?_ ?_
             rotate_left
             ·intro w'
              go_simp;with_reducible rfl
             rotate_left
             ·simp only [Act.put, zS, i64_w, i32_w]
              rfl
             refine pure_ (i := 5) (N := some 46) (v := ?_) (a' := ?_) #[true, true, true, true, true, true, false, false, false, false, false, false, false, false, false] rfl rfl (any_of HT_.out (by kernel_rfl)) (fun _ _ _ h => h) (Or.inl ⟨by rfl, ?_⟩) ?_ ?_
             rotate_left
             ·intro w'
              go_simp;with_reducible rfl
             rotate_left
             ·simp only [Act.put, zS, i64_w, i32_w]
              rfl
             refine pure_ (i := 6) (N := some 47) (v := ?_) (a' := ?_) #[true, true, true, true, true, true, true, false, false, false, false, false, false, false, false] rfl rfl (any_of HT_.out (by kernel_rfl)) (fun _ _ _ h => h) (Or.inl ⟨by rfl, ?_⟩) ?_ ?_
             rotate_left
             ·intro w'
              go_simp;with_reducible rfl
             rotate_left
             ·simp only [Act.put, zS, i64_w, i32_w]
              rfl
             refine pure_ (i := 7) (N := some 48) (v := ?_) (a' := ?_) #[true, true, true, true, true, true, true, true, false, false, false, false, false, false, false] rfl rfl (any_of HT_.out (by kernel_rfl)) (fun _ _ _ h => h) (Or.inl ⟨by rfl, ?_⟩) ?_ ?_
             rotate_left
             ·intro w'
              go_simp;with_reducible rfl
             rotate_left
             ·simp only [Act.put, zS, i64_w, i32_w]
              rfl
             refine pure_ (i := 9) (N := some 50) (v := ?_) (a' := ?_) #[true, true, true, true, true, true, true, true, false, true, false, false, false, false, false] rfl rfl (any_of HT_.out (by kernel_rfl)) (fun _ _ _ h => h) (Or.inl ⟨by rfl, ?_⟩) ?_ ?_
             rotate_left
             ·intro w'
              go_simp;with_reducible rfl
             rotate_left
             ·simp only [Act.put, zS, i64_w, i32_w]
              rfl
             refine take_ (i := 8) (N := some 49) (v := ?_) (a' := ?_) #[true, true, true, true, true, true, true, true, true, true, false, false, false, false, false] rfl rfl (take_ofW HT_.out HW_.out (by kernel_rfl)) (fun _ _ _ h => h) (Or.inl ⟨by rfl, ?_⟩) hHeld ?_ ?_
             rotate_left
             ·rintro w' ⟨s0, s1, s2, s3, s4, s5⟩
              go_simp;with_reducible rfl
             rotate_left
             ·simp only [Act.put, zS, i64_w, i32_w]
              rfl
             refine take_ (i := 10) (N := some 51) (v := ?_) (a' := ?_) #[true, true, true, true, true, true, true, true, true, true, true, false, false, false, false] rfl rfl (take_ofW HT_.out HW_.out (by kernel_rfl)) (fun _ _ _ h => h) (Or.inl ⟨by rfl, ?_⟩) hHeld ?_ ?_
             rotate_left
             ·rintro w' ⟨s0, s1, s2, s3, s4, s5⟩
              go_simp;with_reducible rfl
             rotate_left
             ·simp only [Act.put, zS, i64_w, i32_w]
              rfl
             refine pure_ (i := 11) (N := some 52) (v := ?_) (a' := ?_) #[true, true, true, true, true, true, true, true, true, true, true, true, false, false, false] rfl rfl (any_of HT_.out (by kernel_rfl)) (fun _ _ _ h => h) (Or.inl ⟨by rfl, ?_⟩) ?_ ?_
             rotate_left
             ·intro w'
              go_simp;with_reducible rfl
             rotate_left
             ·simp only [Act.put, zS, i64_w, i32_w]
              rfl
             refine pure_ (i := 12) (N := some 53) (v := ?_) (a' := ?_) #[true, true, true, true, true, true, true, true, true, true, true, true, true, false, false] rfl rfl (any_of HT_.out (by kernel_rfl)) (fun _ _ _ h => h) (Or.inl ⟨by rfl, ?_⟩) ?_ ?_
             rotate_left
             ·intro w'
              go_simp;with_reducible rfl
             rotate_left
             ·simp only [Act.put, zS, i64_w, i32_w]
              rfl
             refine pure_ (i := 13) (N := some 54) (v := ?_) (a' := ?_) #[true, true, true, true, true, true, true, true, true, true, true, true, true, true, false] rfl rfl (any_of HT_.out (by kernel_rfl)) (fun _ _ _ h => h) (Or.inl ⟨by rfl, ?_⟩) ?_ ?_
             rotate_left
             ·intro w'
              go_simp;with_reducible rfl
             rotate_left
             ·simp only [Act.put, zS, i64_w, i32_w]
              rfl
             refine last_ (i := 14) (N := none) #[true, true, true, true, true, true, true, true, true, true, true, true, true, true, true] rfl rfl (one_of HT_.out (by kernel_rfl)) (by decide) (fun K hK => ?_)
             refine skip_ (w1 := ?_) (by rfl) rfl ?_ ?_
             rotate_left
             ·go_simp;rfl
             refine hK.out _ _ ?_
             clear hK K;refine done_ (done_of HT_.out (by kernel_rfl)) ?_
             try go_wp2
             have n0_ : Aside0 (Kd.R k41 41 (w23.setCell ⟨go18, ((ji14) : Int).toNat * 3 + 1, none⟩ (.int .i64 (wrap64 (((rd_T41 x3_1 (ji14)).f1) + ((rd_T41 l0 x4_1).f1))))) w.heap.size (fun k_ => k_ ≠ gb105) (.slice (some ⟨go18, 0, none⟩) x3_1.length co21) y108) := ⟨(zR HQ24)⟩
             have n1_ : Aside0 ((w23.setCell ⟨go18, ((ji14) : Int).toNat * 3 + 1, none⟩ (.int .i64 (wrap64 (((rd_T41 x3_1 (ji14)).f1) + ((rd_T41 l0 x4_1).f1))))).heap[gb105]? = some (.cells #[.int .i64 ((rd_T41 l0 x4_1).f0), .int .i64 ((rd_T41 l0 x4_1).f1), .string ((rd_T41 l0 x4_1).f2)] 41 (0, 0))) := ⟨by (with_reducible repeat (first | refine zA.f ?_ _ | refine zA.g ?_ | refine zA.h ?_ _)); refine blk_far ?_ (by have h_ := R_away HO_3.out (fun _ hk => hk); intro e_; exact h_ (by rw [e_]; rfl)) _; (with_reducible repeat (first | refine zA.f ?_ _ | refine zA.g ?_ | refine zA.h ?_ _)); exact BK105.out⟩
             have n2_ : Aside0 (Below w.heap.size w (w23.setCell ⟨go18, ((ji14) : Int).toNat * 3 + 1, none⟩ (.int .i64 (wrap64 (((rd_T41 x3_1 (ji14)).f1) + ((rd_T41 l0 x4_1).f1)))))) := ⟨by repeat (first | (with_reducible first | exact HB.out | apply zA.b | apply zA.w | apply zA.e | refine zA.s ?_ GB18.out | refine zA.s ?_ GE105.out) | exact HB.out)⟩
             (try clear HO_3);(try clear BK105);(try clear HB);generalize (w23.setCell ⟨go18, ((ji14) : Int).toNat * 3 + 1, none⟩ (.int .i64 (wrap64 (((rd_T41 x3_1 (ji14)).f1) + ((rd_T41 l0 x4_1).f1))))) = w25 at n0_ n1_ n2_ ⊢
             have HO_3 := n0_;have BK105 := n1_;have HB := n2_;clear n0_ n1_ n2_;replace HO_3 := Am (R_drew HO_3.out);replace BK105 := Am (blk_drew BK105.out);replace HB := Am (below_drew1 HB.out);have p109 : 0 ≤ ((ji14) : Int) := of_decide_eq_true (by assumption)
             have q109 : (ji14) < (y108.length : Int) := (by have h_ : ((ji14) : Int) < ((x3_1.length : Int) : Int) := of_decide_eq_true (by assumption); first | (have e_ := (R_reads' HO_3.out).1; omega) | simpa only [Ny108.out, List.length_set] using h_)
             have ql109 : (((ji14) : Int) < ((x3_1.length : Int) : Int)) = True := eq_true (of_decide_eq_true (by assumption))
             obtain ⟨ad109, e109, hx109_0, hx109_1, hx109_2⟩ := at_T41 (R_reads' HO_3.out).2.2 (ji14) p109 q109
             obtain rfl : (⟨go18, 0, none⟩ : Addr) = ad109 := (by injection e109)
             (first | simp only [add_plain] at hx109_0 | simp only [add_at] at hx109_0 | simp only [Addr.add, Nat.zero_add] at hx109_0 | skip)
             (first | simp only [add_plain] at hx109_1 | simp only [add_at] at hx109_1 | simp only [Addr.add, Nat.zero_add] at hx109_1 | skip)
             (first | simp only [add_plain] at hx109_2 | simp only [add_at] at hx109_2 | simp only [Addr.add, Nat.zero_add] at hx109_2 | skip)
             replace p109 := eq_true p109;replace q109 := eq_true q109;have p20 : 0 ≤ ((ji14) : Int) := of_decide_eq_true (by assumption)
             have q20 : ((ji14) : Int) < ((x3_1.length : Int) : Int) := of_decide_eq_true (by assumption)
             obtain ⟨ce20, hcl20, hM20, hcc20, hfr20⟩ := R_elem HO_3.out z41 ((ji14) : Int) p20 q20
             obtain rfl := k41_openM hM20
             have hx20_0 : World.cell? _ ⟨go18, ((ji14) : Int).toNat * 3, none⟩ = some (.int .i64 ((rd_T41 y108 (ji14)).f0)) := hcc20 0 _ rfl
             have hx20_1 : World.cell? _ ⟨go18, ((ji14) : Int).toNat * 3 + 1, none⟩ = some (.int .i64 ((rd_T41 y108 (ji14)).f1)) := hcc20 1 _ rfl
             have hx20_2 : World.cell? _ ⟨go18, ((ji14) : Int).toNat * 3 + 2, none⟩ = some (.string ((rd_T41 y108 (ji14)).f2)) := hcc20 2 _ rfl
             have hf20_0 : World.frozen? _ ⟨go18, ((ji14) : Int).toNat * 3, none⟩ = false := hfr20 0
             have hf20_1 : World.frozen? _ ⟨go18, ((ji14) : Int).toNat * 3 + 1, none⟩ = false := hfr20 1
             have hf20_2 : World.frozen? _ ⟨go18, ((ji14) : Int).toNat * 3 + 2, none⟩ = false := hfr20 2
             clear hcl20 hcc20 hfr20 hM20;replace p20 := eq_true p20;replace q20 := eq_true q20;obtain ⟨ce27, hcl27, hM27, hcc27, hfr27⟩ := R_elem HO_3.out z41 ((ji14) : Int) (of_decide_eq_true (by assumption)) (by have h_ : ((ji14) : Int) < ((x3_1.length : Int) : Int) := of_decide_eq_true (by assumption); first | exact h_ | (have e_ := (R_reads' HO_3.out).1; omega) | simpa using h_)
             obtain rfl := k41_openM hM27
             have HP27 := (R_seg HO_3.out ((ji14) : Int) (of_decide_eq_true (by assumption)) (by have h_ : ((ji14) : Int) < ((x3_1.length : Int) : Int) := of_decide_eq_true (by assumption); first | exact h_ | (have e_ := (R_reads' HO_3.out).1; omega) | simpa using h_) (seg := [.string (((rd_T41 y108 (ji14)).f2) ++ ((rd_T41 l0 x4_1).f2))]) (j := 2) hcl27 hcc27 (show 3 ≤ 3 from by decide) (x' := (⟨(rd_T41 y108 (ji14)).f0, (rd_T41 y108 (ji14)).f1, ((rd_T41 y108 (ji14)).f2) ++ ((rd_T41 l0 x4_1).f2)⟩ : S41)) (k41_mkM _ _ _ (⟨(rd_T41 y108 (ji14)).f0, (rd_T41 y108 (ji14)).f1, ((rd_T41 y108 (ji14)).f2) ++ ((rd_T41 l0 x4_1).f2)⟩ : S41) ) (fun _ hk => hk)).1
             rw [← Ny110.out] at HP27
             have HQ27 := Am HP27;clear hcl27 hcc27 hfr27 hM27 HP27;refine start_ (n := 15) (S := fun w' => w'.cell? ⟨gb105, 0, none⟩ = some (.int .i64 ((rd_T41 l0 x4_1).f0)) ∧ w'.cell? ⟨gb105, 1, none⟩ = some (.int .i64 ((rd_T41 l0 x4_1).f1)) ∧ w'.cell? ⟨gb105, 2, none⟩ = some (.string ((rd_T41 l0 x4_1).f2)) ∧ w'.cell? ⟨go18, ((ji14)).toNat * 3, none⟩ = some (.int .i64 ((rd_T41 y108 (ji14)).f0)) ∧ w'.cell? ⟨go18, ((ji14)).toNat * 3 + 1, none⟩ = some (.int .i64 ((rd_T41 y108 (ji14)).f1)) ∧ w'.cell? ⟨go18, ((ji14)).toNat * 3 + 2, none⟩ = some (.string ((rd_T41 y108 (ji14)).f2))) (ds := [14]) #[false, false, false, false, false, false, false, false, false, false, false, false, false, false, false] (by kernel_rfl) rfl rfl ⟨(blk_cell BK105.out 0).trans rfl, (blk_cell BK105.out 1).trans rfl, (blk_cell BK105.out 2).trans rfl, hx109_0, hx109_1, hx109_2⟩ (fun hHeld => ?_); refine with_tabW epitomeref05_Of.tab10 epitomeref05_Of.bits10 (fun HT_ HW_ => ?_)
             generalize w25.drew = w26 at HO_3 BK105 HB HQ24 HQ27 hf20_0 hf20_1 hf20_2 hx109_0 hx109_1 hx109_2 hx20_0 hx20_1 hx20_2 hHeld ⊢
             refine pure_ (i := 0) (N := some 55) (v := ?_) (a' := ?_) #[true, false, false, false, false, false, false, false, false, false, false, false, false, false, false] rfl rfl (any_of HT_.out (by kernel_rfl)) (fun _ _ _ h => h) (Or.inl ⟨by rfl, ?_⟩) ?_ ?_
             rotate_left
             ·intro w'
              go_simp;with_reducible rfl
             rotate_left
             ·simp only [Act.put, zS, i64_w, i32_w]
              rfl
             refine pure_ (i := 1) (N := some 56) (v := ?_) (a' := ?_) #[true, true, false, false, false, false, false, false, false, false, false, false, false, false, false] rfl rfl (any_of HT_.out (by kernel_rfl)) (fun _ _ _ h => h) (Or.inl ⟨by rfl, ?_⟩) ?_ ?_
             rotate_left
             ·intro w'
              go_simp;with_reducible rfl
             rotate_left
             ·simp only [Act.put, zS, i64_w, i32_w]
              rfl
             refine pure_ (i := 2) (N := some 57) (v := ?_) (a' := ?_) #[true, true, true, false, false, false, false, false, false, false, false, false, false, false, false] rfl rfl (any_of HT_.out (by kernel_rfl)) (fun _ _ _ h => h) (Or.inl ⟨by rfl, ?_⟩) ?_ ?_
             rotate_left
             ·intro w'
              go_simp;with_reducible rfl
             rotate_left
             ·simp only [Act.put, zS, i64_w, i32_w]
              rfl
             refine pure_ (i := 3) (N := some 58) (v := ?_) (a' := ?_) #[true, true, true, true, false, false, false, false, false, false, false, false, false, false, false] rfl rfl (any_of HT_.out (by kernel_rfl)) (fun _ _ _ h => h) (Or.inl ⟨by rfl, ?_⟩) ?_ ?_
             rotate_left
             ·intro w'
              go_simp;with_reducible rfl
             rotate_left
             ·simp only [Act.put, zS, i64_w, i32_w]
              rfl
             refine pure_ (i := 4) (N := some 59) (v := ?_) (a' := ?_) #[true, true, true, true, true, false, false, false, false, false, false, false, false, false, false] rfl rfl (any_of HT_.out (by kernel_rfl)) (fun _ _ _ h => h) (Or.inl ⟨by rfl, ?_⟩) ?_ ?_
             rotate_left
             ·intro w'
              go_simp;with_reducible rfl
             rotate_left
             ·simp only [Act.put, zS, i64_w, i32_w]
              rfl
             refine pure_ (i := 5) (N := some 60) (v := ?_) (a' := ?_) #[true, true, true, true, true, true, false, false, false, false, false, false, false, false, false] rfl rfl (any_of HT_.out (by kernel_rfl)) (fun _ _ _ h => h) (Or.inl ⟨by rfl, ?_⟩) ?_ ?_
             rotate_left
             ·intro w'
              go_simp;with_reducible rfl
             rotate_left
             ·simp only [Act.put, zS, i64_w, i32_w]
              rfl
             refine pure_ (i := 6) (N := some 61) (v := ?_) (a' := ?_) #[true, true, true, true, true, true, true, false, false, false, false, false, false, false, false] rfl rfl (any_of HT_.out (by kernel_rfl)) (fun _ _ _ h => h) (Or.inl ⟨by rfl, ?_⟩) ?_ ?_
             rotate_left
             ·intro w'
              go_simp;with_reducible rfl
             rotate_left
             ·simp only [Act.put, zS, i64_w, i32_w]
              rfl
             refine pure_ (i := 7) (N := some 62) (v := ?_) (a' := ?_) #[true, true, true, true, true, true, true, true, false, false, false, false, false, false, false] rfl rfl (any_of HT_.out (by kernel_rfl)) (fun _ _ _ h => h) (Or.inl ⟨by rfl, ?_⟩) ?_ ?_
             rotate_left
             ·intro w'
              go_simp;with_reducible rfl
             rotate_left
             ·simp only [Act.put, zS, i64_w, i32_w]
              rfl
             refine pure_ (i := 9) (N := some 64) (v := ?_) (a' := ?_) #[true, true, true, true, true, true, true, true, false, true, false, false, false, false, false] rfl rfl (any_of HT_.out (by kernel_rfl)) (fun _ _ _ h => h) (Or.inl ⟨by rfl, ?_⟩) ?_ ?_
             rotate_left
             ·intro w'
              go_simp;with_reducible rfl
             rotate_left
             ·simp only [Act.put, zS, i64_w, i32_w]
              rfl
             refine take_ (i := 8) (N := some 63) (v := ?_) (a' := ?_) #[true, true, true, true, true, true, true, true, true, true, false, false, false, false, false] rfl rfl (take_ofW HT_.out HW_.out (by kernel_rfl)) (fun _ _ _ h => h) (Or.inl ⟨by rfl, ?_⟩) hHeld ?_ ?_
             rotate_left
             ·rintro w' ⟨s0, s1, s2, s3, s4, s5⟩
              go_simp;with_reducible rfl
             rotate_left
             ·simp only [Act.put, zS, i64_w, i32_w]
              rfl
             refine take_ (i := 10) (N := some 65) (v := ?_) (a' := ?_) #[true, true, true, true, true, true, true, true, true, true, true, false, false, false, false] rfl rfl (take_ofW HT_.out HW_.out (by kernel_rfl)) (fun _ _ _ h => h) (Or.inl ⟨by rfl, ?_⟩) hHeld ?_ ?_
             rotate_left
             ·rintro w' ⟨s0, s1, s2, s3, s4, s5⟩
              go_simp;with_reducible rfl
             rotate_left
             ·simp only [Act.put, zS, i64_w, i32_w]
              rfl
             refine pure_ (i := 11) (N := some 66) (v := ?_) (a' := ?_) #[true, true, true, true, true, true, true, true, true, true, true, true, false, false, false] rfl rfl (any_of HT_.out (by kernel_rfl)) (fun _ _ _ h => h) (Or.inl ⟨by rfl, ?_⟩) ?_ ?_
             rotate_left
             ·intro w'
              go_simp;with_reducible rfl
             rotate_left
             ·simp only [Act.put, zS, i64_w, i32_w]
              rfl
             refine pure_ (i := 12) (N := some 67) (v := ?_) (a' := ?_) #[true, true, true, true, true, true, true, true, true, true, true, true, true, false, false] rfl rfl (any_of HT_.out (by kernel_rfl)) (fun _ _ _ h => h) (Or.inl ⟨by rfl, ?_⟩) ?_ ?_
             rotate_left
             ·intro w'
              go_simp;with_reducible rfl
             rotate_left
             ·simp only [Act.put, zS, i64_w, i32_w]
              rfl
             refine pure_ (i := 13) (N := some 68) (v := ?_) (a' := ?_) #[true, true, true, true, true, true, true, true, true, true, true, true, true, true, false] rfl rfl (any_of HT_.out (by kernel_rfl)) (fun _ _ _ h => h) (Or.inl ⟨by rfl, ?_⟩) ?_ ?_
             rotate_left
             ·intro w'
              go_simp;with_reducible rfl
             rotate_left
             ·simp only [Act.put, zS, i64_w, i32_w]
              rfl
             refine last_ (i := 14) (N := none) #[true, true, true, true, true, true, true, true, true, true, true, true, true, true, true] rfl rfl (one_of HT_.out (by kernel_rfl)) (by decide) (fun K hK => ?_)
             refine skip_ (w1 := ?_) (by rfl) rfl ?_ ?_
             rotate_left
             ·go_simp;rfl
             refine hK.out _ _ ?_
             clear hK K;refine done_ (done_of HT_.out (by kernel_rfl)) ?_
             try go_wp2
             go_roundg kj5
             case measure => have := HK1.out; have := HJ5.out; omega
             case rel => exact ⟨(y110), (wrap64 (x4_1 + 1)), zG, H', ⟨by have := HK1.out; have := HJ5.out; omega⟩, ⟨by (with_reducible repeat (first | apply zA.a | apply zA.n | apply zA.d)); exact R_mono HQ27.out (fun _ hk => trivial)⟩, ⟨by repeat (first | (with_reducible first | exact HB.out | apply zA.b | apply zA.w | apply zA.e | refine zA.s ?_ GB18.out | refine zA.s ?_ GE105.out) | exact HB.out)⟩⟩
            ·rw [if_neg c19] at H;exact absurd H (by simp)
           ·rw [if_neg c17] at H;have c17b0 : (((rd_T41 x3_1 (ji14)).f0) == ((rd_T41 l0 x4_1).f0)) = false := beq_eq_false_iff_ne.mpr c17
            have c17b1 : (((rd_T41 x3_1 (ji14)).f0) != ((rd_T41 l0 x4_1).f0)) = true := bne_iff_ne.mpr c17
            by_cases c28 : x3_1.length < 4398046511104
            ·rw [if_pos c28] at H;have LMc28 := Am c28;clear c28;obtain ⟨y111, hy111⟩ : ∃ y_ : List (S41), y_ = (x3_1 ++ [(⟨((rd_T41 l0 x4_1).f0), ((rd_T41 l0 x4_1).f1), ((rd_T41 l0 x4_1).f2)⟩ : S41)]) := ⟨_, rfl⟩
             replace H : (epitomeref05_Of.l0 kj5 l0 y111 (wrap64 (x4_1 + 1))) = some r := by first | (rw [hy111]; with_reducible exact H) | (have H2_ := (Option.bind_some _ _).symm.trans H; rw [hy111]; with_reducible exact H2_) | (have H2_ := (Option.bind_some _ _).symm.trans H; with_reducible exact H2_) | with_reducible exact H | (rw [hy111]; exact H) | exact H
             have Ny111 := Am hy111;clear hy111;have H' := Am H
             clear H;obtain ⟨Ao29, co29, eo29⟩ := R_slice HO_3.out
             subst eo29
             try go_wp2
             replace HO_3 := Am (R_drew HO_3.out);replace BK105 := Am (blk_drew BK105.out);replace HB := Am (below_drew1 HB.out);have p106 : 0 ≤ ((ji14) : Int) := of_decide_eq_true (by assumption)
             have q106 : (ji14) < (x3_1.length : Int) := of_decide_eq_true (by assumption)
             obtain ⟨ad106, e106, hx106_0, hx106_1, hx106_2⟩ := at_T41 (R_reads' HO_3.out).2.2 (ji14) p106 q106
             cases e106
             replace p106 := eq_true p106;replace q106 := eq_true q106;refine start_ (n := 13) (S := fun w' => w'.cell? ⟨gb105, 0, none⟩ = some (.int .i64 ((rd_T41 l0 x4_1).f0)) ∧ w'.cell? ⟨gb105, 1, none⟩ = some (.int .i64 ((rd_T41 l0 x4_1).f1)) ∧ w'.cell? ⟨gb105, 2, none⟩ = some (.string ((rd_T41 l0 x4_1).f2)) ∧ w'.cell? (ad106.add (((ji14)).toNat * 3)) = some (.int .i64 ((rd_T41 x3_1 (ji14)).f0)) ∧ w'.cell? ⟨(ad106.add (((ji14)).toNat * 3)).block, (ad106.add (((ji14)).toNat * 3)).off + 1, none⟩ = some (.int .i64 ((rd_T41 x3_1 (ji14)).f1)) ∧ w'.cell? ⟨(ad106.add (((ji14)).toNat * 3)).block, (ad106.add (((ji14)).toNat * 3)).off + 2, none⟩ = some (.string ((rd_T41 x3_1 (ji14)).f2))) (ds := []) #[false, false, false, false, false, false, false, false, false, false, false, false, false] (by kernel_rfl) rfl rfl ⟨(blk_cell BK105.out 0).trans rfl, (blk_cell BK105.out 1).trans rfl, (blk_cell BK105.out 2).trans rfl, hx106_0, hx106_1, hx106_2⟩ (fun hHeld => ?_); refine with_tabW epitomeref05_Of.tab8 epitomeref05_Of.bits8 (fun HT_ HW_ => ?_)
             generalize wc.drew = w30 at HO_3 BK105 HB hx106_0 hx106_1 hx106_2 hHeld ⊢
             refine pure_ (i := 0) (N := some 28) (v := ?_) (a' := ?_) #[true, false, false, false, false, false, false, false, false, false, false, false, false] rfl rfl (any_of HT_.out (by kernel_rfl)) (fun _ _ _ h => h) (Or.inl ⟨by rfl, ?_⟩) ?_ ?_
             rotate_left
             ·intro w'
              go_simp;with_reducible rfl
             rotate_left
             ·simp only [Act.put, zS, i64_w, i32_w]
              rfl
             refine pure_ (i := 1) (N := some 29) (v := ?_) (a' := ?_) #[true, true, false, false, false, false, false, false, false, false, false, false, false] rfl rfl (any_of HT_.out (by kernel_rfl)) (fun _ _ _ h => h) (Or.inl ⟨by rfl, ?_⟩) ?_ ?_
             rotate_left
             ·intro w'
              go_simp;with_reducible rfl
             rotate_left
             ·simp only [Act.put, zS, i64_w, i32_w]
              rfl
             refine pure_ (i := 2) (N := some 30) (v := ?_) (a' := ?_) #[true, true, true, false, false, false, false, false, false, false, false, false, false] rfl rfl (any_of HT_.out (by kernel_rfl)) (fun _ _ _ h => h) (Or.inl ⟨by rfl, ?_⟩) ?_ ?_
             rotate_left
             ·intro w'
              go_simp;with_reducible rfl
             rotate_left
             ·simp only [Act.put, zS, i64_w, i32_w]
              rfl
             refine pure_ (i := 3) (N := some 31) (v := ?_) (a' := ?_) #[true, true, true, true, false, false, false, false, false, false, false, false, false] rfl rfl (any_of HT_.out (by kernel_rfl)) (fun _ _ _ h => h) (Or.inl ⟨by rfl, ?_⟩) ?_ ?_
             rotate_left
             ·intro w'
              go_simp;with_reducible rfl
             rotate_left
             ·simp only [Act.put, zS, i64_w, i32_w]
              rfl
             refine pure_ (i := 4) (N := some 32) (v := ?_) (a' := ?_) #[true, true, true, true, true, false, false, false, false, false, false, false, false] rfl rfl (any_of HT_.out (by kernel_rfl)) (fun _ _ _ h => h) (Or.inl ⟨by rfl, ?_⟩) ?_ ?_
             rotate_left
             ·intro w'
              go_simp;with_reducible rfl
             rotate_left
             ·simp only [Act.put, zS, i64_w, i32_w]
              rfl
             refine pure_ (i := 5) (N := some 33) (v := ?_) (a' := ?_) #[true, true, true, true, true, true, false, false, false, false, false, false, false] rfl rfl (any_of HT_.out (by kernel_rfl)) (fun _ _ _ h => h) (Or.inl ⟨by rfl, ?_⟩) ?_ ?_
             rotate_left
             ·intro w'
              go_simp;with_reducible rfl
             rotate_left
             ·simp only [Act.put, zS, i64_w, i32_w]
              rfl
             refine pure_ (i := 6) (N := some 34) (v := ?_) (a' := ?_) #[true, true, true, true, true, true, true, false, false, false, false, false, false] rfl rfl (any_of HT_.out (by kernel_rfl)) (fun _ _ _ h => h) (Or.inl ⟨by rfl, ?_⟩) ?_ ?_
             rotate_left
             ·intro w'
              go_simp;with_reducible rfl
             rotate_left
             ·simp only [Act.put, zS, i64_w, i32_w]
              rfl
             refine pure_ (i := 7) (N := some 35) (v := ?_) (a' := ?_) #[true, true, true, true, true, true, true, true, false, false, false, false, false] rfl rfl (any_of HT_.out (by kernel_rfl)) (fun _ _ _ h => h) (Or.inl ⟨by rfl, ?_⟩) ?_ ?_
             rotate_left
             ·intro w'
              go_simp;with_reducible rfl
             rotate_left
             ·simp only [Act.put, zS, i64_w, i32_w]
              rfl
             refine pure_ (i := 9) (N := some 37) (v := ?_) (a' := ?_) #[true, true, true, true, true, true, true, true, false, true, false, false, false] rfl rfl (any_of HT_.out (by kernel_rfl)) (fun _ _ _ h => h) (Or.inl ⟨by rfl, ?_⟩) ?_ ?_
             rotate_left
             ·intro w'
              go_simp;with_reducible rfl
             rotate_left
             ·simp only [Act.put, zS, i64_w, i32_w]
              rfl
             refine take_ (i := 8) (N := some 36) (v := ?_) (a' := ?_) #[true, true, true, true, true, true, true, true, true, true, false, false, false] rfl rfl (take_ofW HT_.out HW_.out (by kernel_rfl)) (fun _ _ _ h => h) (Or.inl ⟨by rfl, ?_⟩) hHeld ?_ ?_
             rotate_left
             ·rintro w' ⟨s0, s1, s2, s3, s4, s5⟩
              go_simp;with_reducible rfl
             rotate_left
             ·simp only [Act.put, zS, i64_w, i32_w]
              rfl
             refine take_ (i := 10) (N := some 38) (v := ?_) (a' := ?_) #[true, true, true, true, true, true, true, true, true, true, true, false, false] rfl rfl (take_ofW HT_.out HW_.out (by kernel_rfl)) (fun _ _ _ h => h) (Or.inl ⟨by rfl, ?_⟩) hHeld ?_ ?_
             rotate_left
             ·rintro w' ⟨s0, s1, s2, s3, s4, s5⟩
              go_simp;with_reducible rfl
             rotate_left
             ·simp only [Act.put, zS, i64_w, i32_w]
              rfl
             refine pure_ (i := 11) (N := some 39) (v := ?_) (a' := ?_) #[true, true, true, true, true, true, true, true, true, true, true, true, false] rfl rfl (any_of HT_.out (by kernel_rfl)) (fun _ _ _ h => h) (Or.inl ⟨by rfl, ?_⟩) ?_ ?_
             rotate_left
             ·intro w'
              go_simp;with_reducible rfl
             rotate_left
             ·simp only [Act.put, zS, i64_w, i32_w]
              rfl
             refine pure_ (i := 12) (N := some 40) (v := ?_) (a' := ?_) #[true, true, true, true, true, true, true, true, true, true, true, true, true] rfl rfl (any_of HT_.out (by kernel_rfl)) (fun _ _ _ h => h) (Or.inl ⟨by rfl, ?_⟩) ?_ ?_
             rotate_left
             ·intro w'
              go_simp;with_reducible rfl
             rotate_left
             ·simp only [Act.put, zS, i64_w, i32_w]
              rfl
             refine done_ (done_of HT_.out (by kernel_rfl)) ?_
             obtain ⟨hcz31_0, hcz31_1, hcz31_2, hfz31_0, hfz31_1, hfz31_2⟩ := zc3 BK105;try go_wp2_with (first | ((with_reducible refine gate_builtin (b := .append) (xs := #[.tmp 69, .tmp 71]) rfl ?_); at_builtin; refine R_append k41 (w0 := w) w.heap.size rfl (.tmp 69) (.tmp 71) 24 41 (.agg #[(.int .i64 0), (.int .i64 0), (.string ⟨#[]⟩)]) 32 rfl Tryd.underlying24 info41 rfl (by decide) (by omega) (.slice (some ad106) x3_1.length co29) x3_1 (⟨((rd_T41 l0 x4_1).f0), ((rd_T41 l0 x4_1).f1), ((rd_T41 l0 x4_1).f2)⟩ : S41) [.int .i64 ((rd_T41 l0 x4_1).f0), .int .i64 ((rd_T41 l0 x4_1).f1), .string ((rd_T41 l0 x4_1).f2)] (fun k_ => k_ ≠ gb105) (fun _ => False) rfl rfl ?aP (fun _ hk => hk.elim) ?aF ?aO ?aB ?aS ?aL ?_; (case aP => exact k41_mkM _ _ _ (⟨((rd_T41 l0 x4_1).f0), ((rd_T41 l0 x4_1).f1), ((rd_T41 l0 x4_1).f2)⟩ : S41)); (case aB => exact (zB HB)); (case aF => exact (fun k_ hk => zm BK105 k_ hk)); (case aO => exact (zR HO_3)); (case aS => exact (below_size (zB HB))); (case aL => have := LMc28.out; omega); intro v112 w32 ho hb hg hat; rw [← Ny111.out] at ho; replace BK105 := Am (zW BK105 hg (R_away HO_3.out (fun _ hk => hk)));replace HB := Am (hb);have HO113 := Am (ho);clear HO_3; clear ho hb hg hat))
             go_roundg kj5
             case measure => have := HK1.out; have := HJ5.out; omega
             case rel => exact ⟨(y111), (wrap64 (x4_1 + 1)), zG, H', ⟨by have := HK1.out; have := HJ5.out; omega⟩, ⟨by (with_reducible repeat (first | apply zA.a | apply zA.n | apply zA.d)); exact R_mono HO113.out (fun _ hk => trivial)⟩, ⟨(zB HB)⟩⟩
            ·rw [if_neg c28] at H;exact absurd H (by simp)
          ·rw [if_neg c16] at H;exact absurd H (by simp)
         ·rw [if_neg c15] at H;exact absurd H (by simp)
        ·rw [if_neg c13] at H;have c13b0 : decide (0 < (x3_1.length : Int)) = false := decide_eq_false c13
         have c13b1 : decide (0 < x3_1.length) = false := decide_eq_false (by omega)
         clear c13;by_cases c33 : x3_1.length < 4398046511104
         ·rw [if_pos c33] at H;have LMc33 := Am c33;clear c33;obtain ⟨y114, hy114⟩ : ∃ y_ : List (S41), y_ = (x3_1 ++ [(⟨((rd_T41 l0 x4_1).f0), ((rd_T41 l0 x4_1).f1), ((rd_T41 l0 x4_1).f2)⟩ : S41)]) := ⟨_, rfl⟩
          replace H : (epitomeref05_Of.l0 kj5 l0 y114 (wrap64 (x4_1 + 1))) = some r := by first | (rw [hy114]; with_reducible exact H) | (have H2_ := (Option.bind_some _ _).symm.trans H; rw [hy114]; with_reducible exact H2_) | (have H2_ := (Option.bind_some _ _).symm.trans H; with_reducible exact H2_) | with_reducible exact H | (rw [hy114]; exact H) | exact H
          have Ny114 := Am hy114;clear hy114;have H' := Am H
          clear H;obtain ⟨Ao34, co34, eo34⟩ := R_slice HO_3.out
          subst eo34
          try go_wp2
          replace HO_3 := Am (R_drew HO_3.out);replace BK105 := Am (blk_drew BK105.out);replace HB := Am (below_drew1 HB.out);refine start_ (n := 13) (S := fun w' => True) (ds := []) #[false, false, false, false, false, false, false, false, false, false, false, false, false] (by kernel_rfl) rfl rfl trivial (fun hHeld => ?_); refine with_tabW epitomeref05_Of.tab8 epitomeref05_Of.bits8 (fun HT_ HW_ => ?_)
          generalize wc.drew = w35 at HO_3 BK105 HB hHeld ⊢
          refine pure_ (i := 0) (N := some 28) (v := ?_) (a' := ?_) #[true, false, false, false, false, false, false, false, false, false, false, false, false] rfl rfl (any_of HT_.out (by kernel_rfl)) (fun _ _ _ h => h) (Or.inl ⟨by rfl, ?_⟩) ?_ ?_
          rotate_left
          ·intro w'
           go_simp;with_reducible rfl
          rotate_left
          ·simp only [Act.put, zS, i64_w, i32_w]
           rfl
          refine pure_ (i := 1) (N := some 29) (v := ?_) (a' := ?_) #[true, true, false, false, false, false, false, false, false, false, false, false, false] rfl rfl (any_of HT_.out (by kernel_rfl)) (fun _ _ _ h => h) (Or.inl ⟨by rfl, ?_⟩) ?_ ?_
          rotate_left
          ·intro w'
           go_simp;with_reducible rfl
          rotate_left
          ·simp only [Act.put, zS, i64_w, i32_w]
           rfl
          refine pure_ (i := 2) (N := some 30) (v := ?_) (a' := ?_) #[true, true, true, false, false, false, false, false, false, false, false, false, false] rfl rfl (any_of HT_.out (by kernel_rfl)) (fun _ _ _ h => h) (Or.inl ⟨by rfl, ?_⟩) ?_ ?_
          rotate_left
          ·intro w'
           go_simp;with_reducible rfl
          rotate_left
          ·simp only [Act.put, zS, i64_w, i32_w]
           rfl
          refine pure_ (i := 3) (N := some 31) (v := undef) (a' := ?_) #[true, true, true, true, false, false, false, false, false, false, false, false, false] rfl rfl (any_of HT_.out (by kernel_rfl)) (fun _ _ _ h => h) (Or.inr ⟨by rfl, rfl⟩) ?_ ?_
          rotate_left
          ·simp only [Act.put, zS, i64_w, i32_w]
           rfl
          refine pure_ (i := 4) (N := some 32) (v := undef) (a' := ?_) #[true, true, true, true, true, false, false, false, false, false, false, false, false] rfl rfl (any_of HT_.out (by kernel_rfl)) (fun _ _ _ h => h) (Or.inr ⟨by rfl, rfl⟩) ?_ ?_
          rotate_left
          ·simp only [Act.put, zS, i64_w, i32_w]
           rfl
          refine pure_ (i := 5) (N := some 33) (v := undef) (a' := ?_) #[true, true, true, true, true, true, false, false, false, false, false, false, false] rfl rfl (any_of HT_.out (by kernel_rfl)) (fun _ _ _ h => h) (Or.inr ⟨by rfl, rfl⟩) ?_ ?_
          rotate_left
          ·simp only [Act.put, zS, i64_w, i32_w]
           rfl
          refine pure_ (i := 6) (N := some 34) (v := undef) (a' := ?_) #[true, true, true, true, true, true, true, false, false, false, false, false, false] rfl rfl (any_of HT_.out (by kernel_rfl)) (fun _ _ _ h => h) (Or.inr ⟨by rfl, rfl⟩) ?_ ?_
          rotate_left
          ·simp only [Act.put, zS, i64_w, i32_w]
           rfl
          refine pure_ (i := 7) (N := some 35) (v := undef) (a' := ?_) #[true, true, true, true, true, true, true, true, false, false, false, false, false] rfl rfl (any_of HT_.out (by kernel_rfl)) (fun _ _ _ h => h) (Or.inr ⟨by rfl, rfl⟩) ?_ ?_
          rotate_left
          ·simp only [Act.put, zS, i64_w, i32_w]
           rfl
          refine pure_ (i := 8) (N := some 36) (v := undef) (a' := ?_) #[true, true, true, true, true, true, true, true, true, false, false, false, false] rfl rfl (any_of HT_.out (by kernel_rfl)) (fun _ _ _ h => h) (Or.inr ⟨by rfl, rfl⟩) ?_ ?_
          rotate_left
          ·simp only [Act.put, zS, i64_w, i32_w]
           rfl
          refine pure_ (i := 9) (N := some 37) (v := undef) (a' := ?_) #[true, true, true, true, true, true, true, true, true, true, false, false, false] rfl rfl (any_of HT_.out (by kernel_rfl)) (fun _ _ _ h => h) (Or.inr ⟨by rfl, rfl⟩) ?_ ?_
          rotate_left
          ·simp only [Act.put, zS, i64_w, i32_w]
           rfl
          refine pure_ (i := 10) (N := some 38) (v := undef) (a' := ?_) #[true, true, true, true, true, true, true, true, true, true, true, false, false] rfl rfl (any_of HT_.out (by kernel_rfl)) (fun _ _ _ h => h) (Or.inr ⟨by rfl, rfl⟩) ?_ ?_
          rotate_left
          ·simp only [Act.put, zS, i64_w, i32_w]
           rfl
          refine pure_ (i := 11) (N := some 39) (v := undef) (a' := ?_) #[true, true, true, true, true, true, true, true, true, true, true, true, false] rfl rfl (any_of HT_.out (by kernel_rfl)) (fun _ _ _ h => h) (Or.inr ⟨by rfl, rfl⟩) ?_ ?_
          rotate_left
          ·simp only [Act.put, zS, i64_w, i32_w]
           rfl
          refine pure_ (i := 12) (N := some 40) (v := ?_) (a' := ?_) #[true, true, true, true, true, true, true, true, true, true, true, true, true] rfl rfl (any_of HT_.out (by kernel_rfl)) (fun _ _ _ h => h) (Or.inl ⟨by rfl, ?_⟩) ?_ ?_
          rotate_left
          ·intro w'
           go_simp;with_reducible rfl
          rotate_left
          ·simp only [Act.put, zS, i64_w, i32_w]
           rfl
          refine done_ (done_of HT_.out (by kernel_rfl)) ?_
          obtain ⟨hcz36_0, hcz36_1, hcz36_2, hfz36_0, hfz36_1, hfz36_2⟩ := zc3 BK105;try go_wp2_with (first | ((with_reducible refine gate_builtin (b := .append) (xs := #[.tmp 69, .tmp 71]) rfl ?_); at_builtin; refine R_append k41 (w0 := w) w.heap.size rfl (.tmp 69) (.tmp 71) 24 41 (.agg #[(.int .i64 0), (.int .i64 0), (.string ⟨#[]⟩)]) 32 rfl Tryd.underlying24 info41 rfl (by decide) (by omega) (.slice Ao34 x3_1.length co34) x3_1 (⟨((rd_T41 l0 x4_1).f0), ((rd_T41 l0 x4_1).f1), ((rd_T41 l0 x4_1).f2)⟩ : S41) [.int .i64 ((rd_T41 l0 x4_1).f0), .int .i64 ((rd_T41 l0 x4_1).f1), .string ((rd_T41 l0 x4_1).f2)] (fun k_ => k_ ≠ gb105) (fun _ => False) rfl rfl ?aP (fun _ hk => hk.elim) ?aF ?aO ?aB ?aS ?aL ?_; (case aP => exact k41_mkM _ _ _ (⟨((rd_T41 l0 x4_1).f0), ((rd_T41 l0 x4_1).f1), ((rd_T41 l0 x4_1).f2)⟩ : S41)); (case aB => exact (zB HB)); (case aF => exact (fun k_ hk => zm BK105 k_ hk)); (case aO => exact (zR HO_3)); (case aS => exact (below_size (zB HB))); (case aL => have := LMc33.out; omega); intro v115 w37 ho hb hg hat; rw [← Ny114.out] at ho; replace BK105 := Am (zW BK105 hg (R_away HO_3.out (fun _ hk => hk)));replace HB := Am (hb);have HO116 := Am (ho);clear HO_3; clear ho hb hg hat))
          go_roundg kj5
          case measure => have := HK1.out; have := HJ5.out; omega
          case rel => exact ⟨(y114), (wrap64 (x4_1 + 1)), zG, H', ⟨by have := HK1.out; have := HJ5.out; omega⟩, ⟨by (with_reducible repeat (first | apply zA.a | apply zA.n | apply zA.d)); exact R_mono HO116.out (fun _ hk => trivial)⟩, ⟨(zB HB)⟩⟩
         ·rw [if_neg c33] at H;exact absurd H (by simp)
    ·rw [if_neg c5] at H;exact absurd H (by simp)
   ·rw [if_neg c4] at H;have c4b0 : decide (x4_1 < (l0.length : Int)) = false := decide_eq_false c4
    clear c4;obtain rfl := Option.some.inj H;go_wp2
    go_ret
    exact ⟨_, zF, (zR HO_3), (zB HB)⟩
end Go.Proofs.YthhgobiaecehbaaDoor.F
end
section
namespace Go.Proofs.YthhgobiaecehbaaDoor.F
open Go.RowKit Go.Proofs.YthhgobiaecehbaaDoorW.PrintWords Go.Proofs.YthhgobiaecehbaaDoorW.PrintLast Go.Proofs.YthhgobiaecehbaaDoorW.PrintMore
attribute [local go_sem] max2_int min2_int max_two min_two max_three min_three max_four min_four cell_setCell_isSome
set_option linter.unusedVariables false
set_option linter.unusedSimpArgs false
open Kd
def epitomeref09_size.f (k : Nat) (a0_0 : Int) (a0_1 : Int) (a0_2 : ByteArray) : Option (Int) := (epitomeref03_In.f a0_0 a0_1 a0_2).bind fun t102 => ((epitomeref01_Count.f k a0_2).bind fun t103 => (some (wrap64 (t102 + t103))))
theorem epitomeref09_size.mono : ∀ a0 a1 a2 k, LeO (epitomeref09_size.f k a0 a1 a2) (epitomeref09_size.f (k + 1) a0 a1 a2) := by
  intro a0 a1 a2 k
  unfold epitomeref09_size.f
  repeat' first
      | (with_reducible exact epitomeref01_Count.mono _ _)
      | (with_reducible exact LeO.refl _)
      | (with_reducible exact LeO.none _)
      | (with_reducible refine LeO.ite ?_ ?_)
      | (with_reducible refine LeO.bind ?_ (fun _ => ?_))
      | exact epitomeref01_Count.mono _ _
      | exact LeO.none _
      | refine LeO.ite ?_ ?_
      | refine LeO.bind ?_ (fun _ => ?_)
set_option maxHeartbeats 40000000 in
set_option maxRecDepth 100000 in
theorem epitomeref09_size.calls (k : Nat) (a0_0 : Int) (a0_1 : Int) (a0_2 : ByteArray) (r : Int) (w : World) (h : epitomeref09_size.f k a0_0 a0_1 a0_2 = some r) :
  Calls Tryd.prog 72 #[.agg #[.int .i64 a0_0, .int .i64 a0_1, .string a0_2]] w fun e w' => e = .returned (.int .i64 r) ∧ Below w.heap.size w w' := by
 have hu41 := Tryd.underlying41
 have HB := Am (Below.refl w.heap.size w)
 have H : ((epitomeref03_In.f a0_0 a0_1 a0_2).bind fun t102 => ((epitomeref01_Count.f k a0_2).bind fun t103 => (some (wrap64 (t102 + t103))))) = some r := h
 clear h;replace H := Option.bind_eq_some_iff.mp H;obtain ⟨t102, A20, H⟩ := H;replace H : ((epitomeref01_Count.f k a0_2).bind fun t103 => (some (wrap64 (t102 + t103)))) = some r := H
 have A2 := Am A20;clear A20;replace H := Option.bind_eq_some_iff.mp H;obtain ⟨t103, A30, H⟩ := H;replace H : (some (wrap64 (t102 + t103))) = some r := H
 have A3 := Am A30;clear A30;obtain rfl := Option.some.inj H;go_enter Tryd.func72, Tryd.ntmps72
 try go_wp2_with (first | ((with_reducible refine gate_dst (N := 1) rfl ?_); refine box_event ?hg (N := 1) ?hd (cs := #[.int .i64 a0_0, .int .i64 a0_1, .string a0_2]) (t := 41) ?hr ?_; (case hd => rfl); (case hg => rfl); (case hr => first | (go_simp; done) | (go_simp; rfl)); intro gb101 hg w4 hbox hb; have BK101 := Am (hbox);have GW101 := Am (zO (w := w) HB hg);have GE101 := Am (zO (w := w) HB hg);replace HB := Am (below_step (zB HB) hb); clear hb hbox hg))
 replace BK101 := Am (blk_drew BK101.out);replace HB := Am (below_drew1 HB.out);refine start_ (n := 7) (S := fun w' => w'.cell? ⟨gb101, 0, none⟩ = some (.int .i64 a0_0) ∧ w'.cell? ⟨gb101, 1, none⟩ = some (.int .i64 a0_1) ∧ w'.cell? ⟨gb101, 2, none⟩ = some (.string a0_2)) (ds := []) #[false, false, false, false, false, false, false] (by kernel_rfl) rfl rfl ⟨(blk_cell BK101.out 0).trans rfl, (blk_cell BK101.out 1).trans rfl, (blk_cell BK101.out 2).trans rfl⟩ (fun hHeld => ?_)
 generalize w4.drew = w5 at BK101 HB hHeld ⊢
 refine pure_ (i := 2) (N := some 5) (v := ?_) (a' := ?_) #[false, false, true, false, false, false, false] rfl rfl (by kernel_rfl) (fun _ _ _ h => h) (Or.inl ⟨by rfl, ?_⟩) ?_ ?_
 rotate_left
 ·intro w'
  go_simp;with_reducible rfl
 rotate_left
 ·simp only [Act.put, zS, i64_w, i32_w]
  rfl
 refine take_ (i := 0) (N := some 3) (v := ?_) (a' := ?_) #[true, false, true, false, false, false, false] rfl rfl (by kernel_rfl) (fun _ _ _ h => h) (Or.inl ⟨by rfl, ?_⟩) hHeld ?_ ?_
 rotate_left
 ·rintro w' ⟨s0, s1, s2⟩
  go_simp;with_reducible rfl
 rotate_left
 ·simp only [Act.put, zS, i64_w, i32_w]
  rfl
 refine take_ (i := 3) (N := some 6) (v := ?_) (a' := ?_) #[true, false, true, true, false, false, false] rfl rfl (by kernel_rfl) (fun _ _ _ h => h) (Or.inl ⟨by rfl, ?_⟩) hHeld ?_ ?_
 rotate_left
 ·rintro w' ⟨s0, s1, s2⟩
  go_simp;with_reducible rfl
 rotate_left
 ·simp only [Act.put, zS, i64_w, i32_w]
  rfl
 refine one_ (i := 1) (N := some 4) #[true, true, true, true, false, false, false] rfl rfl (by kernel_rfl) (by decide) (fun K hK => ?_)
 refine goes_ Tryd.func75 (by kernel_rfl) rfl #[.agg #[.int .i64 a0_0, .int .i64 a0_1, .string a0_2]] (by rfl) rfl rfl zE ?_
 with_reducible refine (epitomeref03_In.calls a0_0 a0_1 a0_2 t102 _ A2.out).mono ?_
 rintro e w6 ⟨rfl, hb⟩
 refine ⟨_, rfl, ?_⟩
 replace BK101 := Am (zU BK101 hb);replace HB := Am (below_step (zB HB) hb);(try clear hb);(try clear hb2);(try clear hk);(try clear hi);refine hK.out _ _ ⟨(blk_cell BK101.out 0).trans rfl, (blk_cell BK101.out 1).trans rfl, (blk_cell BK101.out 2).trans rfl⟩ (fun hHeld => ?_)
 clear hK K;refine norm_ (a' := ?_) ?_ ?_
 rotate_left
 ·show Act.put _ (some 4) _ = _
  simp only [Act.put, zS, i64_w, i32_w]
  rfl
 refine one_ (i := 4) (N := some 7) #[true, true, true, true, true, false, false] rfl rfl (by kernel_rfl) (by decide) (fun K hK => ?_)
 refine goes_ Tryd.func85 (by kernel_rfl) rfl #[.string a0_2] (by rfl) rfl rfl zE ?_
 with_reducible refine (epitomeref01_Count.calls k a0_2 t103 _ A3.out).mono ?_
 rintro e w7 ⟨rfl, hb⟩
 refine ⟨_, rfl, ?_⟩
 replace BK101 := Am (zU BK101 hb);replace HB := Am (below_step (zB HB) hb);(try clear hb);(try clear hb2);(try clear hk);(try clear hi);refine hK.out _ _ ⟨(blk_cell BK101.out 0).trans rfl, (blk_cell BK101.out 1).trans rfl, (blk_cell BK101.out 2).trans rfl⟩ (fun hHeld => ?_)
 clear hK K;refine norm_ (a' := ?_) ?_ ?_
 rotate_left
 ·show Act.put _ (some 7) _ = _
  simp only [Act.put, zS, i64_w, i32_w]
  rfl
 refine pure_ (i := 5) (N := some 8) (v := ?_) (a' := ?_) #[true, true, true, true, true, true, false] rfl rfl (by kernel_rfl) (fun _ _ _ h => h) (Or.inl ⟨by rfl, ?_⟩) ?_ ?_
 rotate_left
 ·intro w'
  go_simp;with_reducible rfl
 rotate_left
 ·simp only [Act.put, zS, i64_w, i32_w]
  rfl
 refine pure_ (i := 6) (N := some 2) (v := ?_) (a' := ?_) #[true, true, true, true, true, true, true] rfl rfl (by kernel_rfl) (fun _ _ _ h => h) (Or.inl ⟨by rfl, ?_⟩) ?_ ?_
 rotate_left
 ·intro w'
  go_simp;with_reducible rfl
 rotate_left
 ·simp only [Act.put, zS, i64_w, i32_w]
  rfl
 refine done_ (by kernel_rfl) ?_
 try go_wp2
 go_ret
 exact ⟨zF, (zB HB)⟩
end Go.Proofs.YthhgobiaecehbaaDoor.F
end
section
namespace Go.Proofs.YthhgobiaecehbaaDoor.F
open Go.RowKit Go.Proofs.YthhgobiaecehbaaDoorW.PrintWords Go.Proofs.YthhgobiaecehbaaDoorW.PrintLast Go.Proofs.YthhgobiaecehbaaDoorW.PrintMore
attribute [local go_sem] max2_int min2_int max_two min_two max_three min_three max_four min_four cell_setCell_isSome
set_option linter.unusedVariables false
set_option linter.unusedSimpArgs false
open Kd
def epitomeref01_Cut.f (k : Nat) (a0 : ByteArray) (a1 : Int) (a2 : Int) : Option (ByteArray × Int) := (epitomeref01_Starts.f k a0).bind fun bt101 => (if bt101.2 = true then (if a1 < 0 then (some ((⟨#[]⟩ : ByteArray), 6)) else (if a2 < a1 then (some ((⟨#[]⟩ : ByteArray), 6)) else (if a2 > (wrap64 ((bt101.1.length : Int) - 1)) then (some ((⟨#[]⟩ : ByteArray), 6)) else (if 0 ≤ a1 then (if a1 < (bt101.1.length : Int) then (if 0 ≤ a2 then (if a2 < (bt101.1.length : Int) then (if 0 ≤ (rd bt101.1 a1) then (if (rd bt101.1 a1) ≤ (rd bt101.1 a2) then (if (rd bt101.1 a2) ≤ (a0.size : Int) then (some (a0.extract ((rd bt101.1 a1) : Int).toNat ((rd bt101.1 a2) : Int).toNat, 0)) else (none)) else (none)) else (none)) else (none)) else (none)) else (none)) else (none))))) else (some ((⟨#[]⟩ : ByteArray), 3)))
theorem epitomeref01_Cut.mono : ∀ a0 a1 a2 k, LeO (epitomeref01_Cut.f k a0 a1 a2) (epitomeref01_Cut.f (k + 1) a0 a1 a2) := by
  intro a0 a1 a2 k
  unfold epitomeref01_Cut.f
  repeat' first
      | (with_reducible exact epitomeref01_Starts.mono _ _)
      | (with_reducible exact LeO.refl _)
      | (with_reducible exact LeO.none _)
      | (with_reducible refine LeO.ite ?_ ?_)
      | (with_reducible refine LeO.bind ?_ (fun _ => ?_))
      | exact epitomeref01_Starts.mono _ _
      | exact LeO.none _
      | refine LeO.ite ?_ ?_
      | refine LeO.bind ?_ (fun _ => ?_)
set_option maxHeartbeats 40000000 in
set_option maxRecDepth 100000 in
theorem epitomeref01_Cut.calls (k : Nat) (a0 : ByteArray) (a1 : Int) (a2 : Int) (r1 : ByteArray) (r2 : Int) (w : World) (h : epitomeref01_Cut.f k a0 a1 a2 = some (r1, r2)) :
  Calls Tryd.prog 86 #[.string a0, .int .i64 a1, .int .i64 a2] w fun e w' => e = .returned (.tuple #[.string r1, .int .i64 r2]) ∧ Below w.heap.size w w' := by
 have HB := Am (Below.refl w.heap.size w)
 have H : ((epitomeref01_Starts.f k a0).bind fun bt101 => (if bt101.2 = true then (if a1 < 0 then (some ((⟨#[]⟩ : ByteArray), 6)) else (if a2 < a1 then (some ((⟨#[]⟩ : ByteArray), 6)) else (if a2 > (wrap64 ((bt101.1.length : Int) - 1)) then (some ((⟨#[]⟩ : ByteArray), 6)) else (if 0 ≤ a1 then (if a1 < (bt101.1.length : Int) then (if 0 ≤ a2 then (if a2 < (bt101.1.length : Int) then (if 0 ≤ (rd bt101.1 a1) then (if (rd bt101.1 a1) ≤ (rd bt101.1 a2) then (if (rd bt101.1 a2) ≤ (a0.size : Int) then (some (a0.extract ((rd bt101.1 a1) : Int).toNat ((rd bt101.1 a2) : Int).toNat, 0)) else (none)) else (none)) else (none)) else (none)) else (none)) else (none)) else (none))))) else (some ((⟨#[]⟩ : ByteArray), 3)))) = some (r1, r2) := h
 clear h;replace H := Option.bind_eq_some_iff.mp H;obtain ⟨⟨t101, t102⟩, A40, H⟩ := H;replace H : (if t102 = true then (if a1 < 0 then (some ((⟨#[]⟩ : ByteArray), 6)) else (if a2 < a1 then (some ((⟨#[]⟩ : ByteArray), 6)) else (if a2 > (wrap64 ((t101.length : Int) - 1)) then (some ((⟨#[]⟩ : ByteArray), 6)) else (if 0 ≤ a1 then (if a1 < (t101.length : Int) then (if 0 ≤ a2 then (if a2 < (t101.length : Int) then (if 0 ≤ (rd t101 a1) then (if (rd t101 a1) ≤ (rd t101 a2) then (if (rd t101 a2) ≤ (a0.size : Int) then (some (a0.extract ((rd t101 a1) : Int).toNat ((rd t101 a2) : Int).toNat, 0)) else (none)) else (none)) else (none)) else (none)) else (none)) else (none)) else (none))))) else (some ((⟨#[]⟩ : ByteArray), 3))) = some (r1, r2) := H
 have A4 := Am A40;clear A40;by_cases c5 : t102 = true
 ·subst c5
  have H1 : (if a1 < 0 then (some ((⟨#[]⟩ : ByteArray), 6)) else (if a2 < a1 then (some ((⟨#[]⟩ : ByteArray), 6)) else (if a2 > (wrap64 ((t101.length : Int) - 1)) then (some ((⟨#[]⟩ : ByteArray), 6)) else (if 0 ≤ a1 then (if a1 < (t101.length : Int) then (if 0 ≤ a2 then (if a2 < (t101.length : Int) then (if 0 ≤ (rd t101 a1) then (if (rd t101 a1) ≤ (rd t101 a2) then (if (rd t101 a2) ≤ (a0.size : Int) then (some (a0.extract ((rd t101 a1) : Int).toNat ((rd t101 a2) : Int).toNat, 0)) else (none)) else (none)) else (none)) else (none)) else (none)) else (none)) else (none))))) = some (r1, r2) := by rw [if_pos rfl] at H; exact H
  clear H;have H := H1
  clear H1;by_cases c6 : a1 < 0
  ·rw [if_pos c6] at H;have c6b0 : decide (a1 < 0) = true := decide_eq_true c6
   clear c6;simp only [Option.some.injEq, Prod.mk.injEq] at H
   obtain ⟨rfl, rfl⟩ := H;go_enter Tryd.func86, Tryd.ntmps86
   go_wp2_with (first | (go_at_call 89; (with_reducible refine (epitomeref01_Starts.calls k a0 t101 true _ A4.out).mono ?_); rintro e w7 ⟨v103, rfl, ho0, hb⟩; have HO104 := Am (R_lower ho0 (below_size (zB HB)));replace HB := Am (below_step (zB HB) hb); (try clear hb); (try clear ho0)))
   repeat (go_quiet (first | (go_at_call 89; (with_reducible refine (epitomeref01_Starts.calls k a0 t101 true _ A4.out).mono ?_); rintro e w7 ⟨v103, rfl, ho0, hb⟩; have HO104 := Am (R_lower ho0 (below_size (zB HB)));replace HB := Am (below_step (zB HB) hb); (try clear hb); (try clear ho0))); try go_wp2_with (first | (go_at_call 89; (with_reducible refine (epitomeref01_Starts.calls k a0 t101 true _ A4.out).mono ?_); rintro e w7 ⟨v103, rfl, ho0, hb⟩; have HO104 := Am (R_lower ho0 (below_size (zB HB)));replace HB := Am (below_step (zB HB) hb); (try clear hb); (try clear ho0))))
   go_ret2
   exact ⟨zF, (zB HB)⟩
  ·rw [if_neg c6] at H;have c6b0 : decide (a1 < 0) = false := decide_eq_false c6
   clear c6;by_cases c8 : a2 < a1
   ·rw [if_pos c8] at H;have c8b0 : decide (a2 < a1) = true := decide_eq_true c8
    clear c8;simp only [Option.some.injEq, Prod.mk.injEq] at H
    obtain ⟨rfl, rfl⟩ := H;go_enter Tryd.func86, Tryd.ntmps86
    go_wp2_with (first | (go_at_call 89; (with_reducible refine (epitomeref01_Starts.calls k a0 t101 true _ A4.out).mono ?_); rintro e w9 ⟨v103, rfl, ho0, hb⟩; have HO104 := Am (R_lower ho0 (below_size (zB HB)));replace HB := Am (below_step (zB HB) hb); (try clear hb); (try clear ho0)))
    repeat (go_quiet (first | (go_at_call 89; (with_reducible refine (epitomeref01_Starts.calls k a0 t101 true _ A4.out).mono ?_); rintro e w9 ⟨v103, rfl, ho0, hb⟩; have HO104 := Am (R_lower ho0 (below_size (zB HB)));replace HB := Am (below_step (zB HB) hb); (try clear hb); (try clear ho0))); try go_wp2_with (first | (go_at_call 89; (with_reducible refine (epitomeref01_Starts.calls k a0 t101 true _ A4.out).mono ?_); rintro e w9 ⟨v103, rfl, ho0, hb⟩; have HO104 := Am (R_lower ho0 (below_size (zB HB)));replace HB := Am (below_step (zB HB) hb); (try clear hb); (try clear ho0))))
    go_ret2
    exact ⟨zF, (zB HB)⟩
   ·rw [if_neg c8] at H;have c8b0 : decide (a2 < a1) = false := decide_eq_false c8
    clear c8;by_cases c10 : a2 > (wrap64 ((t101.length : Int) - 1))
    ·rw [if_pos c10] at H;have c10b0 : decide ((wrap64 ((t101.length : Int) - 1)) < a2) = true := decide_eq_true c10
     clear c10;simp only [Option.some.injEq, Prod.mk.injEq] at H
     obtain ⟨rfl, rfl⟩ := H;go_enter Tryd.func86, Tryd.ntmps86
     go_wp2_with (first | (go_at_call 89; (with_reducible refine (epitomeref01_Starts.calls k a0 t101 true _ A4.out).mono ?_); rintro e w11 ⟨v103, rfl, ho0, hb⟩; have HO104 := Am (R_lower ho0 (below_size (zB HB)));replace HB := Am (below_step (zB HB) hb); (try clear hb); (try clear ho0); obtain ⟨Ao12, co12, eo12⟩ := R_slice HO104.out; subst eo12))
     repeat (go_quiet (first | (go_at_call 89; (with_reducible refine (epitomeref01_Starts.calls k a0 t101 true _ A4.out).mono ?_); rintro e w11 ⟨v103, rfl, ho0, hb⟩; have HO104 := Am (R_lower ho0 (below_size (zB HB)));replace HB := Am (below_step (zB HB) hb); (try clear hb); (try clear ho0); obtain ⟨Ao12, co12, eo12⟩ := R_slice HO104.out; subst eo12)); try go_wp2_with (first | (go_at_call 89; (with_reducible refine (epitomeref01_Starts.calls k a0 t101 true _ A4.out).mono ?_); rintro e w11 ⟨v103, rfl, ho0, hb⟩; have HO104 := Am (R_lower ho0 (below_size (zB HB)));replace HB := Am (below_step (zB HB) hb); (try clear hb); (try clear ho0); obtain ⟨Ao12, co12, eo12⟩ := R_slice HO104.out; subst eo12)))
     go_ret2
     exact ⟨zF, (zB HB)⟩
    ·rw [if_neg c10] at H;have c10b0 : decide ((wrap64 ((t101.length : Int) - 1)) < a2) = false := decide_eq_false c10
     clear c10;by_cases c13 : 0 ≤ a1
     ·rw [if_pos c13] at H;have c13b0 : decide (0 ≤ a1) = true := decide_eq_true c13
      clear c13;by_cases c14 : a1 < (t101.length : Int)
      ·rw [if_pos c14] at H;have c14b0 : decide (a1 < (t101.length : Int)) = true := decide_eq_true c14
       clear c14;by_cases c15 : 0 ≤ a2
       ·rw [if_pos c15] at H;have c15b0 : decide (0 ≤ a2) = true := decide_eq_true c15
        clear c15;by_cases c16 : a2 < (t101.length : Int)
        ·rw [if_pos c16] at H;have c16b0 : decide (a2 < (t101.length : Int)) = true := decide_eq_true c16
         clear c16;by_cases c17 : 0 ≤ (rd t101 a1)
         ·rw [if_pos c17] at H;have c17b0 := eq_true c17
          have c17b1 : decide (0 ≤ (rd t101 a1)) = true := decide_eq_true c17
          clear c17;by_cases c18 : (rd t101 a1) ≤ (rd t101 a2)
          ·rw [if_pos c18] at H;have c18b0 := eq_true c18
           have c18b1 : decide ((rd t101 a1) ≤ (rd t101 a2)) = true := decide_eq_true c18
           clear c18;by_cases c19 : (rd t101 a2) ≤ (a0.size : Int)
           ·rw [if_pos c19] at H;have c19b0 := eq_true c19
            have c19b1 : decide ((rd t101 a2) ≤ (a0.size : Int)) = true := decide_eq_true c19
            clear c19;simp only [Option.some.injEq, Prod.mk.injEq] at H
            obtain ⟨rfl, rfl⟩ := H;go_enter Tryd.func86, Tryd.ntmps86
            go_wp2_with (first | (go_at_call 89; (with_reducible refine (epitomeref01_Starts.calls k a0 t101 true _ A4.out).mono ?_); rintro e w20 ⟨v103, rfl, ho0, hb⟩; have HO104 := Am (R_lower ho0 (below_size (zB HB)));replace HB := Am (below_step (zB HB) hb); (try clear hb); (try clear ho0); obtain ⟨Ao21, co21, eo21⟩ := R_slice HO104.out; subst eo21; have p105 : 0 ≤ (a1 : Int) := of_decide_eq_true (by assumption); have q105 : a1 < (t101.length : Int) := of_decide_eq_true (by assumption); obtain ⟨ad105, e105, hx105_0⟩ := Kd.at_int (R_reads' HO104.out).2.2 a1 p105 q105; cases e105; replace p105 := eq_true p105; replace q105 := eq_true q105; have p106 : 0 ≤ (a2 : Int) := of_decide_eq_true (by assumption); have q106 : a2 < (t101.length : Int) := of_decide_eq_true (by assumption); obtain ⟨ad106, e106, hx106_0⟩ := Kd.at_int (R_reads' HO104.out).2.2 a2 p106 q106; obtain rfl : ad105 = ad106 := (by injection e106); replace p106 := eq_true p106; replace q106 := eq_true q106))
            repeat (go_quiet (first | (go_at_call 89; (with_reducible refine (epitomeref01_Starts.calls k a0 t101 true _ A4.out).mono ?_); rintro e w20 ⟨v103, rfl, ho0, hb⟩; have HO104 := Am (R_lower ho0 (below_size (zB HB)));replace HB := Am (below_step (zB HB) hb); (try clear hb); (try clear ho0); obtain ⟨Ao21, co21, eo21⟩ := R_slice HO104.out; subst eo21; have p105 : 0 ≤ (a1 : Int) := of_decide_eq_true (by assumption); have q105 : a1 < (t101.length : Int) := of_decide_eq_true (by assumption); obtain ⟨ad105, e105, hx105_0⟩ := Kd.at_int (R_reads' HO104.out).2.2 a1 p105 q105; cases e105; replace p105 := eq_true p105; replace q105 := eq_true q105; have p106 : 0 ≤ (a2 : Int) := of_decide_eq_true (by assumption); have q106 : a2 < (t101.length : Int) := of_decide_eq_true (by assumption); obtain ⟨ad106, e106, hx106_0⟩ := Kd.at_int (R_reads' HO104.out).2.2 a2 p106 q106; obtain rfl : ad105 = ad106 := (by injection e106); replace p106 := eq_true p106; replace q106 := eq_true q106)); try go_wp2_with (first | (go_at_call 89; (with_reducible refine (epitomeref01_Starts.calls k a0 t101 true _ A4.out).mono ?_); rintro e w20 ⟨v103, rfl, ho0, hb⟩; have HO104 := Am (R_lower ho0 (below_size (zB HB)));replace HB := Am (below_step (zB HB) hb); (try clear hb); (try clear ho0); obtain ⟨Ao21, co21, eo21⟩ := R_slice HO104.out; subst eo21; have p105 : 0 ≤ (a1 : Int) := of_decide_eq_true (by assumption); have q105 : a1 < (t101.length : Int) := of_decide_eq_true (by assumption); obtain ⟨ad105, e105, hx105_0⟩ := Kd.at_int (R_reads' HO104.out).2.2 a1 p105 q105; cases e105; replace p105 := eq_true p105; replace q105 := eq_true q105; have p106 : 0 ≤ (a2 : Int) := of_decide_eq_true (by assumption); have q106 : a2 < (t101.length : Int) := of_decide_eq_true (by assumption); obtain ⟨ad106, e106, hx106_0⟩ := Kd.at_int (R_reads' HO104.out).2.2 a2 p106 q106; obtain rfl : ad105 = ad106 := (by injection e106); replace p106 := eq_true p106; replace q106 := eq_true q106)))
            go_ret2
            exact ⟨zF, (zB HB)⟩
           ·rw [if_neg c19] at H;exact absurd H (by simp)
          ·rw [if_neg c18] at H;exact absurd H (by simp)
         ·rw [if_neg c17] at H;exact absurd H (by simp)
        ·rw [if_neg c16] at H;exact absurd H (by simp)
       ·rw [if_neg c15] at H;exact absurd H (by simp)
      ·rw [if_neg c14] at H;exact absurd H (by simp)
     ·rw [if_neg c13] at H;exact absurd H (by simp)
 ·replace c5 := Bool.eq_false_iff.mpr c5
  subst c5
  have H1 : (some ((⟨#[]⟩ : ByteArray), 3)) = some (r1, r2) := by rw [if_neg (show ¬ (false = true) by decide)] at H; exact H
  clear H;have H := H1
  clear H1;simp only [Option.some.injEq, Prod.mk.injEq] at H
  obtain ⟨rfl, rfl⟩ := H;go_enter Tryd.func86, Tryd.ntmps86
  go_wp2_with (first | (go_at_call 89; (with_reducible refine (epitomeref01_Starts.calls k a0 t101 false _ A4.out).mono ?_); rintro e w22 ⟨v103, rfl, ho0, hb⟩; have HO104 := Am (R_lower ho0 (below_size (zB HB)));replace HB := Am (below_step (zB HB) hb); (try clear hb); (try clear ho0)))
  repeat (go_quiet (first | (go_at_call 89; (with_reducible refine (epitomeref01_Starts.calls k a0 t101 false _ A4.out).mono ?_); rintro e w22 ⟨v103, rfl, ho0, hb⟩; have HO104 := Am (R_lower ho0 (below_size (zB HB)));replace HB := Am (below_step (zB HB) hb); (try clear hb); (try clear ho0))); try go_wp2_with (first | (go_at_call 89; (with_reducible refine (epitomeref01_Starts.calls k a0 t101 false _ A4.out).mono ?_); rintro e w22 ⟨v103, rfl, ho0, hb⟩; have HO104 := Am (R_lower ho0 (below_size (zB HB)));replace HB := Am (below_step (zB HB) hb); (try clear hb); (try clear ho0))))
  go_ret2
  exact ⟨zF, (zB HB)⟩
end Go.Proofs.YthhgobiaecehbaaDoor.F
end
section
namespace Go.Proofs.YthhgobiaecehbaaDoor.F
open Go.RowKit Go.Proofs.YthhgobiaecehbaaDoorW.PrintWords Go.Proofs.YthhgobiaecehbaaDoorW.PrintLast Go.Proofs.YthhgobiaecehbaaDoorW.PrintMore
set_option linter.unusedVariables false
set_option linter.unusedSimpArgs false
def epitomeref09_First.f (k : Nat) (a0_0 : Int) (a0_1 : Int) (a0_2 : ByteArray) (a1 : Int) : Option (Int × Int × ByteArray × Int × Int × ByteArray) := if a0_0 = 2 then ((epitomeref01_Cut.f k a0_2 0 a1).bind fun bt106 => ((epitomeref01_Count.f k a0_2).bind fun t108 => ((epitomeref01_Cut.f k a0_2 a1 t108).bind fun bt109 => (some (a0_0, a0_1, bt106.1, a0_0, a0_1, bt109.1))))) else (some (a0_0, a1, a0_2, a0_0, wrap64 (a0_1 - a1), a0_2))
theorem epitomeref09_First.mono (a b : Int) (c : ByteArray) (d : Int) (k : Nat) : LeO (epitomeref09_First.f k a b c d) (epitomeref09_First.f (k + 1) a b c d) := by
  unfold epitomeref09_First.f
  split
  · exact LeO.bind (epitomeref01_Cut.mono _ _ _ _) (fun _ => LeO.bind (epitomeref01_Count.mono _ _) (fun _ => LeO.bind (epitomeref01_Cut.mono _ _ _ _) (fun _ => LeO.refl _)))
  · exact LeO.refl _
theorem blk_belowD {w w1 : World} {g : Nat} {o : Obj} {n : Nat} (h : w.heap[g]? = some o) (hb : Below (w.drewN n).heap.size (w.drewN n) w1) : w1.heap[g]? = some o := blk_below (blk_drewN h n) hb
theorem below_stepD {w W w2 : World} {n : Nat} (h : Below w.heap.size w W) (k : Below (W.drewN n).heap.size (W.drewN n) w2) : Below w.heap.size w w2 := below_step (pw_below_drewN h n) k
theorem five_alloc (w : World) (o1 o2 o3 o4 o5 : Obj) {w1 : World} (hb : Below (((((w.alloc o1).alloc o2).alloc o3).alloc o4).alloc o5).heap.size (((((w.alloc o1).alloc o2).alloc o3).alloc o4).alloc o5) w1) :
    w1.heap[w.heap.size]? = some o1 ∧ w1.heap[w.heap.size + 1]? = some o2 ∧ w1.heap[w.heap.size + 1 + 1]? = some o3 ∧ w1.heap[w.heap.size + 1 + 1 + 1]? = some o4 ∧ w1.heap[w.heap.size + 1 + 1 + 1 + 1]? = some o5 ∧ Below w.heap.size w w1 := by
  have n1 := blk_new w o1
  have n2 := blk_new (w.alloc o1) o2
  have n3 := blk_new ((w.alloc o1).alloc o2) o3
  have n4 := blk_new (((w.alloc o1).alloc o2).alloc o3) o4
  have n5 := blk_new ((((w.alloc o1).alloc o2).alloc o3).alloc o4) o5
  simp only [size_alloc] at n2 n3 n4 n5
  exact ⟨blk_below (blk_alloc (blk_alloc (blk_alloc (blk_alloc n1 _) _) _) _) hb, blk_below (blk_alloc (blk_alloc (blk_alloc n2 _) _) _) hb, blk_below (blk_alloc (blk_alloc n3 _) _) hb, blk_below (blk_alloc n4 _) hb, blk_below n5 hb,
    below_step (below_alloc (below_alloc (below_alloc (below_alloc (below_alloc (Below.refl _ _) _) _) _) _) _) hb⟩
set_option maxHeartbeats 4000000 in
set_option maxRecDepth 100000 in
theorem epitomeref09_First.calls (k : Nat) (a0_0 : Int) (a0_1 : Int) (a0_2 : ByteArray) (a1 : Int) (r1 : Int) (r2 : Int) (r3 : ByteArray) (r4 : Int) (r5 : Int) (r6 : ByteArray) (w : World) (h : epitomeref09_First.f k a0_0 a0_1 a0_2 a1 = some (r1, r2, r3, r4, r5, r6)) :
  Calls Tryd.prog 73 #[.agg #[.int .i64 a0_0, .int .i64 a0_1, .string a0_2], .int .i64 a1] w fun e w' => e = .returned (.tuple #[.agg #[.int .i64 r1, .int .i64 r2, .string r3], .agg #[.int .i64 r4, .int .i64 r5, .string r6]]) ∧ Below w.heap.size w w' := by
 have hu := Tryd.underlying41
 unfold epitomeref09_First.f at h
 by_cases h2 : a0_0 = 2
 ·rw [if_pos h2] at h
  subst h2
  obtain ⟨⟨c1, e1⟩, q1, h⟩ := Option.bind_eq_some_iff.1 h
  obtain ⟨n, q2, h⟩ := Option.bind_eq_some_iff.1 h
  obtain ⟨⟨c2, e2⟩, q3, h⟩ := Option.bind_eq_some_iff.1 h
  obtain ⟨rfl, rfl, rfl, rfl, rfl, rfl⟩ : 2 = r1 ∧ a0_1 = r2 ∧ c1 = r3 ∧ 2 = r4 ∧ a0_1 = r5 ∧ c2 = r6 := by simpa using h
  have Q1 := Aside0.mk q1;have Q2 := Aside0.mk q2;have Q3 := Aside0.mk q3;clear h q1 q2 q3;go_enter Tryd.func73, Tryd.ntmps73
  go_wp2_with (go_at_call 86; (with_reducible refine (epitomeref01_Cut.calls k a0_2 0 a1 c1 e1 _ Q1.out).mono ?_); rintro e w1 ⟨rfl, hb1⟩; obtain ⟨b1, b2, b3, b4, b5, hb⟩ := five_alloc w _ _ _ _ _ hb1; have hc := blk_cell b4 2; have hf := blk_frozen b4 2)
  have hst : Below w.heap.size w (w1.setCell ⟨w.heap.size + 1 + 1 + 1, 2, none⟩ (.string c1)) := below_set hb (by omega)
  have s1 := blk_far b1 (p := ⟨w.heap.size + 1 + 1 + 1, 2, none⟩) (by simp only; omega) (.string c1)
  have s2 := blk_far b2 (p := ⟨w.heap.size + 1 + 1 + 1, 2, none⟩) (by simp only; omega) (.string c1)
  have s3 := blk_far b3 (p := ⟨w.heap.size + 1 + 1 + 1, 2, none⟩) (by simp only; omega) (.string c1)
  have s4 := blk_put b4 2 (.string c1) rfl
  have s5 := blk_far b5 (p := ⟨w.heap.size + 1 + 1 + 1, 2, none⟩) (by simp only; omega) (.string c1)
  generalize w1.setCell ⟨w.heap.size + 1 + 1 + 1, 2, none⟩ (.string c1) = w2 at hst s1 s2 s3 s4 s5 ⊢
  clear hc hf b1 b2 b3 b4 b5 hb hb1;have hc := blk_cell s1 2
  have hk := blk_cell s5 2
  have hf := blk_frozen s5 2
  go_region_with (first | (go_at_call 85; (with_reducible refine (epitomeref01_Count.calls k a0_2 n _ Q2.out).mono ?_); rintro e w3 ⟨rfl, hb3⟩; have t5 := blk_belowD s5 hb3; have hc3 := blk_cell (blk_belowD s1 hb3) 2; have t4 := blk_belowD s4 hb3; have t3 := blk_belowD s3 hb3; have t2 := blk_belowD s2 hb3; have ht := below_stepD hst hb3) | (go_at_call 86; (with_reducible refine (epitomeref01_Cut.calls k a0_2 a1 n c2 e2 _ Q3.out).mono ?_); rintro e w4 ⟨rfl, hb4⟩; have u5 := blk_below t5 hb4; have u4 := blk_below t4 hb4; have u3 := blk_below t3 hb4; have u2 := blk_below t2 hb4; have hu4 := below_step ht hb4; have hk4 := blk_cell u5 2; have hf4 := blk_frozen u5 2))
  all_goals (
   have hS : Below w.heap.size w (w4.setCell ⟨w.heap.size + 1 + 1 + 1 + 1, 2, none⟩ (.string c2)) := below_set hu4 (by omega)
   have v2 := blk_far u2 (p := ⟨w.heap.size + 1 + 1 + 1 + 1, 2, none⟩) (by simp only; omega) (.string c2)
   have v3 := blk_far u3 (p := ⟨w.heap.size + 1 + 1 + 1 + 1, 2, none⟩) (by simp only; omega) (.string c2)
   have v4 := blk_far u4 (p := ⟨w.heap.size + 1 + 1 + 1 + 1, 2, none⟩) (by simp only; omega) (.string c2)
   have v5 := blk_put u5 2 (.string c2) rfl
   go_wp2
   generalize w4.setCell ⟨w.heap.size + 1 + 1 + 1 + 1, 2, none⟩ (.string c2) = w5 at hS v2 v3 v4 v5 ⊢
   have p0 := blk_cell v4 0
   have p1 := blk_cell v4 1
   have p2 := blk_cell v4 2
   have q0 := blk_cell v5 0
   have q1 := blk_cell v5 1
   have q2 := blk_cell v5 2
   have f0 := blk_frozen v2 0
   have f1 := blk_frozen v2 1
   have f2 := blk_frozen v2 2
   have g0 := blk_frozen v3 0
   have g1 := blk_frozen v3 1
   have g2 := blk_frozen v3 2
   have x0 := blk_cell v2 0
   have x1 := blk_cell v2 1
   have x2 := blk_cell v2 2
   have y0 := blk_cell v3 0
   have y1 := blk_cell v3 1
   have y2 := blk_cell v3 2
   have ne1 : w.heap.size + 1 ≠ w.heap.size + 1 + 1 := by omega
   go_region
   go_wp2
   refine bodyPost_ret (results_cc rfl _ _ (w.heap.size + 1) (w.heap.size + 1 + 1) 41 41 #[.int .i64 2, .int .i64 a0_1, .string c1] #[.int .i64 2, .int .i64 a0_1, .string c2] (0, 0) (0, 0) _ _ rfl ?_ hu rfl (by kernel_rfl) rfl ?_ hu rfl (by kernel_rfl)) rfl ?_
   ·exact blk_drew (blk_far (blk_far (blk_far (blk_put (blk_put (blk_put v2 0 _ rfl) 1 _ rfl) 2 _ rfl) ne1 _) ne1 _) ne1 _)
   ·exact blk_drew (blk_put (blk_put (blk_put (blk_far (blk_far (blk_far v3 ne1.symm _) ne1.symm _) ne1.symm _) 0 _ rfl) 1 _ rfl) 2 _ rfl)
   ·exact ⟨rfl, below_drew1 (below_set (below_set (below_set (below_set (below_set (below_set hS (by omega)) (by omega)) (by omega)) (by omega)) (by omega)) (by omega))⟩)
 ·rw [if_neg h2] at h
  obtain ⟨rfl, rfl, rfl, rfl, rfl, rfl⟩ : a0_0 = r1 ∧ a1 = r2 ∧ a0_2 = r3 ∧ a0_0 = r4 ∧ wrap64 (a0_1 - a1) = r5 ∧ a0_2 = r6 := by simpa using h
  have d1 : (a0_0 == 2) = false := by simp [h2]
  clear h h2;go_enter Tryd.func73, Tryd.ntmps73
  go_wp2
  go_region
  all_goals (go_wp2; refine bodyPost_ret (results_cc rfl _ _ (w.heap.size + 1) (w.heap.size + 1 + 1) 41 41 #[.int .i64 a0_0, .int .i64 a1, .string a0_2] #[.int .i64 a0_0, .int .i64 (wrap64 (a0_1 - a1)), .string a0_2] (0, 0) (0, 0) _ _ rfl ?_ hu rfl (by kernel_rfl) rfl ?_ hu rfl (by kernel_rfl)) rfl ?_)
  all_goals first | exact (five_alloc w _ _ _ _ _ (below_drew1 (Below.refl _ _))).2.1 | exact (five_alloc w _ _ _ _ _ (below_drew1 (Below.refl _ _))).2.2.1 | exact ⟨rfl, (five_alloc w _ _ _ _ _ (below_drew1 (Below.refl _ _))).2.2.2.2.2⟩
end Go.Proofs.YthhgobiaecehbaaDoor.F
end
