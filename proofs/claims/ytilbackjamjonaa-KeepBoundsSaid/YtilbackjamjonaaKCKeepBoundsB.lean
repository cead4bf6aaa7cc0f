import Derived.Test.YtilbackjamjonaaKCKeepBoundsA
import Derived.Below
import Derived.Deep.Draws
import Derived.Deep.AppendLies
import Derived.Maps.AppendAt
import Derived.OwnWalk
import Derived.Laws.BytesArg
import Derived.Laws.MakeOwn
import Derived.Laws.OwnMore
import Derived.Deep.OwnRows
import Derived.Tactics
import Derived.Lib.ConvBytes
import Derived.Laws.Slices
import Derived.WalkKit
import Derived.KernelRfl
import Derived.RowKit3
import Derived.Deep.LoopGhost
import Derived.Deep.QuietTactic
import Derived.BigQuiet
import Derived.WideLaws
import Derived.Deep.DeepCutAuto
import Derived.Deep.CutBlock
import Derived.Deep.RegionHeld3
import Derived.Laws.Rows
import Derived.Lib.AppendStr
import Derived.ArgAppend
import Derived.Laws.IdiomCopy
import Derived.RowKit
import Derived.OrdersHeld
import Derived.Laws.BitsLemmas
import Derived.Test.YtilbackjamjonaaProg
import Derived.Handy
import Derived.Maps.OwnOps
import Derived.Maps.OwnSet
import Derived.Maps.Views
section
namespace Go.Proofs.Ytilbackjamjonaa.F
open Go.RowKit Go.Proofs.YtilbackjamjonaaW.PrintWords Go.Proofs.YtilbackjamjonaaW.PrintLast Go.Proofs.YtilbackjamjonaaW.PrintMore
attribute [local go_sem] max2_int min2_int max_two min_two max_three min_three max_four min_four
set_option linter.unusedVariables false
set_option linter.unusedSimpArgs false
def errW : Option Int → Value
  | none => .nilIface
  | some c => .iface 0 (.int .i64 c)
theorem errW_none : errW none = .nilIface := rfl
theorem errW_some (c : Int) : errW (some c) = .iface 0 (.int .i64 c) := rfl
theorem info3 : (Try.prog.info? 3).map (fun i => (i.zero, i.size, i.bytes)) = some (some (.int .i64 0), 1, 8) := by kernel_rfl
theorem cell_setCell_isSome (w : World) (a b : Addr) (v : Value) : ((w.setCell a v).cell? b).isSome = (w.cell? b).isSome := by
  unfold World.setCell World.cell?
  rw [Array.getElem?_modify]
  cases hh : w.heap[b.block]? with
  | none => by_cases h : a.block = b.block <;> simp [h]
  | some o =>
    by_cases h : a.block = b.block
    · cases o with
      | cells c e f =>
        cases hs : b.spot <;> cases hs2 : a.spot <;> simp [h, Array.getElem?_setIfInBounds]
        split
        · next he =>
          by_cases hb : b.off < c.size
          · simp [he, hb]
          · simp [he, hb]
        · rfl
      | _ => simp [h]
    · simp [h]
theorem eqb_r {a b v : Bool} (h : (a == b) = true) (ha : a = v) : b = v := by cases a <;> cases b <;> simp_all
theorem eqb_l {a b v : Bool} (h : (a == b) = true) (hb : b = v) : a = v := by cases a <;> cases b <;> simp_all
theorem neb_r {a b v : Bool} (h : (a == b) = false) (ha : a = v) : b = !v := by cases a <;> cases b <;> simp_all
theorem neb_l {a b v : Bool} (h : (a == b) = false) (hb : b = v) : a = !v := by cases a <;> cases b <;> simp_all
end Go.Proofs.Ytilbackjamjonaa.F
end
section
namespace Go.Proofs.Ytilbackjamjonaa.F
open Go.RowKit Go.Proofs.YtilbackjamjonaaW.PrintWords Go.Proofs.YtilbackjamjonaaW.PrintLast Go.Proofs.YtilbackjamjonaaW.PrintMore
attribute [local go_sem] max2_int min2_int max_two min_two max_three min_three max_four min_four cell_setCell_isSome
set_option linter.unusedVariables false
set_option linter.unusedSimpArgs false
def epitomelaw18_few.f (l0 : List Int) : Option (List Int) := if 0 ≤ (mn (l0.length : Int) 30) then (if (mn (l0.length : Int) 30) ≤ (l0.length : Int) then (some (l0.take ((mn (l0.length : Int) 30) : Int).toNat)) else (none)) else (none)
set_option maxHeartbeats 8000000 in
set_option maxRecDepth 100000 in
theorem epitomelaw18_few.calls (P0_ : Nat → Prop) (A0 : Option Addr) (c0 : Nat) (l0 : List Int) (r : List Int) (w : World) (hs0 : Kd.V (Kd.int .i64) 3 w w.heap.size (fun k_ => P0_ k_) (.slice A0 l0.length c0) l0) (h : epitomelaw18_few.f l0 = some r) :
    Calls Try.prog 7 #[.slice A0 l0.length c0] w fun e w' => ∃ v0_ : Value, e = .returned (v0_) ∧ Kd.V (Kd.int .i64) 3 w' w.heap.size (fun k_ => (P0_ k_ ∨ w.heap.size ≤ k_)) v0_ r ∧ Below w.heap.size w w' := by
  have HO0 := Aside0.mk (show Kd.V (Kd.int .i64) 3 w w.heap.size (fun k_ => (P0_ k_ ∨ w.heap.size ≤ k_)) (.slice A0 l0.length c0) l0 from Kd.V_mono hs0 (fun k_ hk => .inl hk))
  have HB := Aside0.mk (Below.refl w.heap.size w)
  have H : (if 0 ≤ (mn (l0.length : Int) 30) then (if (mn (l0.length : Int) 30) ≤ (l0.length : Int) then (some (l0.take ((mn (l0.length : Int) 30) : Int).toNat)) else (none)) else (none)) = some r := h
  clear h
  obtain ⟨ji2, hji2⟩ : ∃ j_ : Int, (mn (l0.length : Int) 30) = j_ := ⟨_, rfl⟩
  replace H : (if 0 ≤ (ji2) then (if (ji2) ≤ (l0.length : Int) then (some (l0.take ((ji2) : Int).toNat)) else (none)) else (none)) = some r := by first | (rw [hji2] at H; exact H) | (simp only [hji2] at H ⊢; exact H)
  (try (have hji2h : ji2 ≤ 30 := by (rw [← hji2]; unfold mn; (repeat' split) <;> omega)))
  (try (have hji2g : ji2 ≤ 64 := by omega))
  (try (have hji2l : 0 ≤ ji2 := by (rw [← hji2]; unfold mn; (repeat' split) <;> omega)))
  (try (have hji2m : 0 ≤ ji2 := by omega))
  have hji2_ : (if 30 < (l0.length : Int) then 30 else (l0.length : Int)) = ji2 := hji2
  by_cases c3 : 0 ≤ (ji2)
  · rw [if_pos c3] at H
    have c3b0 := eq_true c3
    have c3b1 : decide (0 ≤ (ji2)) = true := decide_eq_true c3
    clear c3
    by_cases c4 : (ji2) ≤ (l0.length : Int)
    · rw [if_pos c4] at H
      have c4b0 := eq_true c4
      have c4b1 : decide ((ji2) ≤ (l0.length : Int)) = true := decide_eq_true c4
      clear c4
      obtain ⟨y101, hy101⟩ : ∃ y_ : List Int, y_ = (l0.take ((ji2) : Int).toNat) := ⟨_, rfl⟩
      replace H : (some y101) = some r := by first | (rw [hy101]; with_reducible exact H) | (have H2_ := (Option.bind_some _ _).symm.trans H; rw [hy101]; with_reducible exact H2_) | (have H2_ := (Option.bind_some _ _).symm.trans H; with_reducible exact H2_) | with_reducible exact H | (rw [hy101]; exact H) | exact H
      have Ny101 := Aside0.mk hy101
      clear hy101
      obtain rfl := Option.some.inj H
      have q5 : ((ji2) : Int) ≤ ((l0.length : Int) : Int) := of_decide_eq_true (by first | (with_reducible assumption) | assumption)
      obtain ⟨i05, hi05, _, hsz5, _⟩ := info_parts info3
      have hroom5 : l0.length ≤ c0 := (Kd.V_reads' HO0.out).2.1
      have hC5 : Kd.F (Kd.int .i64) _ _ A0 l0.length l0 := (Kd.V_at (base := w.heap.size) HO0.out).2.2
      have hcut5 := cut_to (P := Try.prog) 22 3 .i64 Try.underlying22 hi05 A0 l0.length c0 (ji2) (of_decide_eq_true (by first | (with_reducible assumption) | assumption)) q5 hroom5
      have hr5 := Kd.F_take (m := ((ji2) : Int).toNat) hC5 (by omega)
      have hy5 : y101.length = ((ji2) : Int).toNat := (by rw [Ny101.out, List.length_take]; omega)
      rw [← Ny101.out] at hr5
      rw [← hy5] at hcut5
      have HO105 := Aside0.mk (show Kd.V (Kd.int .i64) 3 _ w.heap.size _ (.slice A0 y101.length c0) y101 from Kd.V_mk (by omega) hr5)
      have HC105 := Aside0.mk (show y101.length ≤ c0 from by omega)
      clear hr5 hC5 hroom5 hi05 hsz5
      have KY5 := Aside0.mk hy5
      clear hy5
      replace q5 := eq_true q5
      go_enter Try.func7, Try.ntmps7
      go_wp2
      go_ret
      exact ⟨_, by first | rfl | (simp [errW_none, errW_some] <;> rfl) | (simp only [← hji2]; first | rfl | (simp [errW_none, errW_some] <;> rfl)) | (simp [*, errW_none, errW_some] <;> rfl), by (with_reducible repeat (first | apply Kd.V_alloc | apply Kd.V_drewN | apply Kd.V_drew)); exact HO105.out, by repeat (first | (with_reducible first | exact HB.out | apply below_alloc | apply pw_below_drewN | apply below_drew1) | exact HB.out)⟩
    · rw [if_neg c4] at H
      exact absurd H (by simp)
  · rw [if_neg c3] at H
    exact absurd H (by simp)
end Go.Proofs.Ytilbackjamjonaa.F
end
section
namespace Go.Proofs.Ytilbackjamjonaa.F
open Go.RowKit Go.Proofs.YtilbackjamjonaaW.PrintWords Go.Proofs.YtilbackjamjonaaW.PrintLast Go.Proofs.YtilbackjamjonaaW.PrintMore
attribute [local go_sem] max2_int min2_int max_two min_two max_three min_three max_four min_four cell_setCell_isSome
set_option linter.unusedVariables false
set_option linter.unusedSimpArgs false
def epitomelaw18_in.l0 : Nat → List Int → Int → Int → Option (Bool)
  | 0, _, _, _ => none
  | k + 1, x0, x1, x5 => if x5 < (x0.length : Int) then (if 0 ≤ x5 then (if (rd x0 x5) = x1 then (some true) else (epitomelaw18_in.l0 k x0 x1 (wrap64 (x5 + 1)))) else (none)) else (some false)
def epitomelaw18_in.f (k : Nat) (l0 : List Int) (a1 : Int) : Option (Bool) := epitomelaw18_in.l0 k l0 a1 0
theorem epitomelaw18_in.mono_l : ∀ k, (∀ y0 y1 y2, LeO (epitomelaw18_in.l0 k y0 y1 y2) (epitomelaw18_in.l0 (k + 1) y0 y1 y2))
  | 0 => fun _ _ _ r h => by simp [epitomelaw18_in.l0] at h
  | k + 1 => by
    have ih0 := epitomelaw18_in.mono_l k
    · intro y0 y1 y2
      unfold epitomelaw18_in.l0
      repeat' first
      | (with_reducible exact ih0 _ _ _)
      | (with_reducible exact LeO.refl _)
      | (with_reducible exact LeO.none _)
      | (with_reducible refine LeO.ite ?_ ?_)
      | (with_reducible refine LeO.bind ?_ (fun _ => ?_))
      | exact ih0 _ _ _
      | exact LeO.none _
      | refine LeO.ite ?_ ?_
      | refine LeO.bind ?_ (fun _ => ?_)
theorem epitomelaw18_in.mono : ∀ a0 a1 k, LeO (epitomelaw18_in.f k a0 a1) (epitomelaw18_in.f (k + 1) a0 a1) := by
  intro a0 a1 k
  have ih0 := epitomelaw18_in.mono_l k
  unfold epitomelaw18_in.f
  repeat' first
      | (with_reducible exact ih0 _ _ _)
      | (with_reducible exact LeO.refl _)
      | (with_reducible exact LeO.none _)
      | (with_reducible refine LeO.ite ?_ ?_)
      | (with_reducible refine LeO.bind ?_ (fun _ => ?_))
      | exact ih0 _ _ _
      | exact LeO.none _
      | refine LeO.ite ?_ ?_
      | refine LeO.bind ?_ (fun _ => ?_)
set_option maxHeartbeats 8000000 in
set_option maxRecDepth 100000 in
theorem epitomelaw18_in.calls (k : Nat) (A0 : Option Addr) (c0 : Nat) (l0 : List Int) (a1 : Int) (r : Bool) (w : World) (hr0 : Kd.C (Kd.int .i64) w A0 l0.length l0) (hc0 : l0.length ≤ c0) (h : epitomelaw18_in.f k l0 a1 = some r) :
    Calls Try.prog 10 #[.slice A0 l0.length c0, .int .i64 a1] w fun e w' => e = .returned (.bool r) ∧ Drawn0 w w' := by
  have HR0 := Aside0.mk hr0
  have HC0 := Aside0.mk hc0
  clear hr0 hc0
  have H : (epitomelaw18_in.l0 k l0 a1 0) = some r := h
  clear h
  have H' := Aside0.mk H
  clear H
  go_enter Try.func10, Try.ntmps10
  go_wp2
  go_loopg [5] k (fun kq v5 w' => ∃ (x5_1 : Int), v5 = .int .i64 x5_1 ∧ Aside0 (epitomelaw18_in.l0 kq l0 a1 x5_1 = some r) ∧ Aside0 (kq ≤ k) ∧ Drawn0 w w')
  case atStart => exact ⟨(0), (by first | rfl | (simp; done) | (simp [*]; done)), H', ⟨Nat.le_refl _⟩, by repeat (first | exact Drawn0.refl _ | apply Drawn0.step)⟩
  case round =>
    clear H'
    try clear c1
    try clear p2
    obtain ⟨x5_1, rfl, HA, HK1, ⟨m1, rfl⟩⟩ := hrel
    cases gk with
    | zero => exact absurd HA.out (by simp [epitomelaw18_in.l0])
    | succ k1 =>
      have H := HA.out
      clear HA
      simp only [epitomelaw18_in.l0] at H
      by_cases c3 : x5_1 < (l0.length : Int)
      · rw [if_pos c3] at H
        have c3b0 : decide (x5_1 < (l0.length : Int)) = true := decide_eq_true c3
        clear c3
        by_cases c4 : 0 ≤ x5_1
        · rw [if_pos c4] at H
          have c4b0 : decide (0 ≤ x5_1) = true := decide_eq_true c4
          clear c4
          by_cases c5 : (rd l0 x5_1) = a1
          · rw [if_pos c5] at H
            have c5b0 : ((rd l0 x5_1) == a1) = true := beq_iff_eq.mpr c5
            have c5b1 : ((rd l0 x5_1) != a1) = false := bne_eq_false_iff_eq.mpr c5
            clear c5
            obtain rfl := Option.some.inj H
            have p101 : 0 ≤ (x5_1 : Int) := of_decide_eq_true (by first | (with_reducible assumption) | assumption)
            have q101 : x5_1 < (l0.length : Int) := of_decide_eq_true (by first | (with_reducible assumption) | assumption)
            obtain ⟨ad101, e101, hx101_0⟩ := Kd.at_int HR0.out x5_1 p101 q101
            cases e101
            replace p101 := eq_true p101
            replace q101 := eq_true q101
            go_wp2
            go_ret
            exact ⟨by first | rfl | (simp; done) | (simp [*]; done), by repeat (first | exact Drawn0.refl _ | apply Drawn0.step)⟩
          · rw [if_neg c5] at H
            have c5b0 : ((rd l0 x5_1) == a1) = false := beq_eq_false_iff_ne.mpr c5
            have c5b1 : ((rd l0 x5_1) != a1) = true := bne_iff_ne.mpr c5
            have H' := Aside0.mk H
            clear H
            have p101 : 0 ≤ (x5_1 : Int) := of_decide_eq_true (by first | (with_reducible assumption) | assumption)
            have q101 : x5_1 < (l0.length : Int) := of_decide_eq_true (by first | (with_reducible assumption) | assumption)
            obtain ⟨ad101, e101, hx101_0⟩ := Kd.at_int HR0.out x5_1 p101 q101
            cases e101
            replace p101 := eq_true p101
            replace q101 := eq_true q101
            go_wp2
            go_roundg k1
            case measure => have := HK1.out; omega
            case rel => exact ⟨(wrap64 (x5_1 + 1)), (by first | rfl | (simp; done) | (simp [*]; done)), H', ⟨by have := HK1.out; omega⟩, by repeat (first | exact Drawn0.refl _ | apply Drawn0.step)⟩
        · rw [if_neg c4] at H
          exact absurd H (by simp)
      · rw [if_neg c3] at H
        have c3b0 : decide (x5_1 < (l0.length : Int)) = false := decide_eq_false c3
        clear c3
        obtain rfl := Option.some.inj H
        go_wp2
        go_ret
        exact ⟨by first | rfl | (simp; done) | (simp [*]; done), by repeat (first | exact Drawn0.refl _ | apply Drawn0.step)⟩
end Go.Proofs.Ytilbackjamjonaa.F
end
section
namespace Go.Proofs.Ytilbackjamjonaa.F
open Go.RowKit Go.Proofs.YtilbackjamjonaaW.PrintWords Go.Proofs.YtilbackjamjonaaW.PrintLast Go.Proofs.YtilbackjamjonaaW.PrintMore
attribute [local go_sem] max2_int min2_int max_two min_two max_three min_three max_four min_four cell_setCell_isSome
set_option linter.unusedVariables false
set_option linter.unusedSimpArgs false
def epitomeref15_SameRow.l0 : Nat → List Int → List Int → Int → Option (Bool)
  | 0, _, _, _ => none
  | k + 1, x0, x1, x5 => if x5 < (x0.length : Int) then (if 0 ≤ x5 then (if x5 < (x1.length : Int) then (if (rd x0 x5) = (rd x1 x5) then (epitomeref15_SameRow.l0 k x0 x1 (wrap64 (x5 + 1))) else (some false)) else (none)) else (none)) else (some true)
def epitomeref15_SameRow.f (k : Nat) (l0 : List Int) (l1 : List Int) : Option (Bool) := if (l0.length : Int) = (l1.length : Int) then (epitomeref15_SameRow.l0 k l0 l1 0) else (some false)
theorem epitomeref15_SameRow.mono_l : ∀ k, (∀ y0 y1 y2, LeO (epitomeref15_SameRow.l0 k y0 y1 y2) (epitomeref15_SameRow.l0 (k + 1) y0 y1 y2))
  | 0 => fun _ _ _ r h => by simp [epitomeref15_SameRow.l0] at h
  | k + 1 => by
    have ih0 := epitomeref15_SameRow.mono_l k
    · intro y0 y1 y2
      unfold epitomeref15_SameRow.l0
      repeat' first
      | (with_reducible exact ih0 _ _ _)
      | (with_reducible exact LeO.refl _)
      | (with_reducible exact LeO.none _)
      | (with_reducible refine LeO.ite ?_ ?_)
      | (with_reducible refine LeO.bind ?_ (fun _ => ?_))
      | exact ih0 _ _ _
      | exact LeO.none _
      | refine LeO.ite ?_ ?_
      | refine LeO.bind ?_ (fun _ => ?_)
theorem epitomeref15_SameRow.mono : ∀ a0 a1 k, LeO (epitomeref15_SameRow.f k a0 a1) (epitomeref15_SameRow.f (k + 1) a0 a1) := by
  intro a0 a1 k
  have ih0 := epitomeref15_SameRow.mono_l k
  unfold epitomeref15_SameRow.f
  repeat' first
      | (with_reducible exact ih0 _ _ _)
      | (with_reducible exact LeO.refl _)
      | (with_reducible exact LeO.none _)
      | (with_reducible refine LeO.ite ?_ ?_)
      | (with_reducible refine LeO.bind ?_ (fun _ => ?_))
      | exact ih0 _ _ _
      | exact LeO.none _
      | refine LeO.ite ?_ ?_
      | refine LeO.bind ?_ (fun _ => ?_)
set_option maxHeartbeats 8000000 in
set_option maxRecDepth 100000 in
theorem epitomeref15_SameRow.calls (k : Nat) (A0 : Option Addr) (c0 : Nat) (l0 : List Int) (A1 : Option Addr) (c1 : Nat) (l1 : List Int) (r : Bool) (w : World) (hr0 : Kd.C (Kd.int .i64) w A0 l0.length l0) (hc0 : l0.length ≤ c0) (hr1 : Kd.C (Kd.int .i64) w A1 l1.length l1) (hc1 : l1.length ≤ c1) (h : epitomeref15_SameRow.f k l0 l1 = some r) :
    Calls Try.prog 11 #[.slice A0 l0.length c0, .slice A1 l1.length c1] w fun e w' => e = .returned (.bool r) ∧ Drawn0 w w' := by
  have HR0 := Aside0.mk hr0
  have HC0 := Aside0.mk hc0
  clear hr0 hc0
  have HR1 := Aside0.mk hr1
  have HC1 := Aside0.mk hc1
  clear hr1 hc1
  have H : (if (l0.length : Int) = (l1.length : Int) then (epitomeref15_SameRow.l0 k l0 l1 0) else (some false)) = some r := h
  clear h
  by_cases c3 : (l0.length : Int) = (l1.length : Int)
  · rw [if_pos c3] at H
    have c3b0 : ((l0.length : Int) == (l1.length : Int)) = true := beq_iff_eq.mpr c3
    have c3b1 : ((l0.length : Int) != (l1.length : Int)) = false := bne_eq_false_iff_eq.mpr c3
    have c3b2 : (l0.length == l1.length) = true := by first | simpa using c3 | (simp at c3 ⊢; omega)
    clear c3
    have H' := Aside0.mk H
    clear H
    go_enter Try.func11, Try.ntmps11
    go_wp2
    repeat (go_quiet (fail); try go_wp2)
    go_loopg [5] k (fun kq v5 w' => ∃ (x5_1 : Int), v5 = .int .i64 x5_1 ∧ Aside0 (epitomeref15_SameRow.l0 kq l0 l1 x5_1 = some r) ∧ Aside0 (kq ≤ k) ∧ Drawn0 w w')
    case atStart => exact ⟨(0), (by first | rfl | (simp; done) | (simp [*]; done)), H', ⟨Nat.le_refl _⟩, by repeat (first | exact Drawn0.refl _ | apply Drawn0.step)⟩
    case round =>
      clear H'
      try clear c1
      try clear p2
      try clear c3
      try clear c3b0
      try clear c3b1
      try clear c3b2
      obtain ⟨x5_1, rfl, HA, HK1, ⟨m1, rfl⟩⟩ := hrel
      cases gk with
      | zero => exact absurd HA.out (by simp [epitomeref15_SameRow.l0])
      | succ k1 =>
        have H := HA.out
        clear HA
        simp only [epitomeref15_SameRow.l0] at H
        by_cases c4 : x5_1 < (l0.length : Int)
        · rw [if_pos c4] at H
          have c4b0 : decide (x5_1 < (l0.length : Int)) = true := decide_eq_true c4
          clear c4
          by_cases c5 : 0 ≤ x5_1
          · rw [if_pos c5] at H
            have c5b0 : decide (0 ≤ x5_1) = true := decide_eq_true c5
            clear c5
            by_cases c6 : x5_1 < (l1.length : Int)
            · rw [if_pos c6] at H
              have c6b0 : decide (x5_1 < (l1.length : Int)) = true := decide_eq_true c6
              clear c6
              by_cases c7 : (rd l0 x5_1) = (rd l1 x5_1)
              · rw [if_pos c7] at H
                have c7b0 : ((rd l0 x5_1) == (rd l1 x5_1)) = true := beq_iff_eq.mpr c7
                have c7b1 : ((rd l0 x5_1) != (rd l1 x5_1)) = false := bne_eq_false_iff_eq.mpr c7
                clear c7
                have H' := Aside0.mk H
                clear H
                have p101 : 0 ≤ (x5_1 : Int) := of_decide_eq_true (by first | (with_reducible assumption) | assumption)
                have q101 : x5_1 < (l0.length : Int) := of_decide_eq_true (by first | (with_reducible assumption) | assumption)
                obtain ⟨ad101, e101, hx101_0⟩ := Kd.at_int HR0.out x5_1 p101 q101
                cases e101
                replace p101 := eq_true p101
                replace q101 := eq_true q101
                have p102 : 0 ≤ (x5_1 : Int) := of_decide_eq_true (by first | (with_reducible assumption) | assumption)
                have q102 : x5_1 < (l1.length : Int) := of_decide_eq_true (by first | (with_reducible assumption) | assumption)
                obtain ⟨ad102, e102, hx102_0⟩ := Kd.at_int HR1.out x5_1 p102 q102
                cases e102
                replace p102 := eq_true p102
                replace q102 := eq_true q102
                go_wp2
                repeat (go_quiet (fail); try go_wp2)
                go_roundg k1
                case measure => have := HK1.out; omega
                case rel => exact ⟨(wrap64 (x5_1 + 1)), (by first | rfl | (simp; done) | (simp [*]; done)), H', ⟨by have := HK1.out; omega⟩, by repeat (first | exact Drawn0.refl _ | apply Drawn0.step)⟩
              · rw [if_neg c7] at H
                have c7b0 : ((rd l0 x5_1) == (rd l1 x5_1)) = false := beq_eq_false_iff_ne.mpr c7
                have c7b1 : ((rd l0 x5_1) != (rd l1 x5_1)) = true := bne_iff_ne.mpr c7
                obtain rfl := Option.some.inj H
                have p101 : 0 ≤ (x5_1 : Int) := of_decide_eq_true (by first | (with_reducible assumption) | assumption)
                have q101 : x5_1 < (l0.length : Int) := of_decide_eq_true (by first | (with_reducible assumption) | assumption)
                obtain ⟨ad101, e101, hx101_0⟩ := Kd.at_int HR0.out x5_1 p101 q101
                cases e101
                replace p101 := eq_true p101
                replace q101 := eq_true q101
                have p102 : 0 ≤ (x5_1 : Int) := of_decide_eq_true (by first | (with_reducible assumption) | assumption)
                have q102 : x5_1 < (l1.length : Int) := of_decide_eq_true (by first | (with_reducible assumption) | assumption)
                obtain ⟨ad102, e102, hx102_0⟩ := Kd.at_int HR1.out x5_1 p102 q102
                cases e102
                replace p102 := eq_true p102
                replace q102 := eq_true q102
                go_wp2
                repeat (go_quiet (fail); try go_wp2)
                go_ret
                exact ⟨by first | rfl | (simp; done) | (simp [*]; done), by repeat (first | exact Drawn0.refl _ | apply Drawn0.step)⟩
            · rw [if_neg c6] at H
              exact absurd H (by simp)
          · rw [if_neg c5] at H
            exact absurd H (by simp)
        · rw [if_neg c4] at H
          have c4b0 : decide (x5_1 < (l0.length : Int)) = false := decide_eq_false c4
          clear c4
          obtain rfl := Option.some.inj H
          go_wp2
          repeat (go_quiet (fail); try go_wp2)
          go_ret
          exact ⟨by first | rfl | (simp; done) | (simp [*]; done), by repeat (first | exact Drawn0.refl _ | apply Drawn0.step)⟩
  · rw [if_neg c3] at H
    have c3b0 : ((l0.length : Int) == (l1.length : Int)) = false := beq_eq_false_iff_ne.mpr c3
    have c3b1 : ((l0.length : Int) != (l1.length : Int)) = true := bne_iff_ne.mpr c3
    have c3b2 : (l0.length == l1.length) = false := by first | simpa using c3 | (simp at c3 ⊢; omega)
    obtain rfl := Option.some.inj H
    go_enter Try.func11, Try.ntmps11
    go_wp2
    repeat (go_quiet (fail); try go_wp2)
    go_ret
    exact ⟨by first | rfl | (simp; done) | (simp [*]; done), by repeat (first | exact Drawn0.refl _ | apply Drawn0.step)⟩
end Go.Proofs.Ytilbackjamjonaa.F
end
section
namespace Go.Proofs.Ytilbackjamjonaa.F
open Go.RowKit Go.Proofs.YtilbackjamjonaaW.PrintWords Go.Proofs.YtilbackjamjonaaW.PrintLast Go.Proofs.YtilbackjamjonaaW.PrintMore
attribute [local go_sem] max2_int min2_int max_two min_two max_three min_three max_four min_four cell_setCell_isSome
set_option linter.unusedVariables false
set_option linter.unusedSimpArgs false
def keep_Floor.l0 : Nat → Int → Int → List Int → Int → Int → Option (Int)
  | 0, _, _, _, _, _ => none
  | k + 1, x1, x5, x8, x9, x10 => if x10 < x9 then (if 0 ≤ x10 then (if x10 < (x8.length : Int) then (if (rd x8 x10) > x1 then (some x5) else (keep_Floor.l0 k x1 x10 x8 x9 (wrap64 (x10 + 1)))) else (none)) else (none)) else (some x5)
def keep_Floor.f (k : Nat) (l0 : List Int) (a1 : Int) : Option (Int) := keep_Floor.l0 k a1 0 l0 (l0.length : Int) 0
theorem keep_Floor.mono_l : ∀ k, (∀ y0 y1 y2 y3 y4, LeO (keep_Floor.l0 k y0 y1 y2 y3 y4) (keep_Floor.l0 (k + 1) y0 y1 y2 y3 y4))
  | 0 => fun _ _ _ _ _ r h => by simp [keep_Floor.l0] at h
  | k + 1 => by
    have ih0 := keep_Floor.mono_l k
    · intro y0 y1 y2 y3 y4
      unfold keep_Floor.l0
      repeat' first
      | (with_reducible exact ih0 _ _ _ _ _)
      | (with_reducible exact LeO.refl _)
      | (with_reducible exact LeO.none _)
      | (with_reducible refine LeO.ite ?_ ?_)
      | (with_reducible refine LeO.bind ?_ (fun _ => ?_))
      | exact ih0 _ _ _ _ _
      | exact LeO.none _
      | refine LeO.ite ?_ ?_
      | refine LeO.bind ?_ (fun _ => ?_)
theorem keep_Floor.mono : ∀ a0 a1 k, LeO (keep_Floor.f k a0 a1) (keep_Floor.f (k + 1) a0 a1) := by
  intro a0 a1 k
  have ih0 := keep_Floor.mono_l k
  unfold keep_Floor.f
  repeat' first
      | (with_reducible exact ih0 _ _ _ _ _)
      | (with_reducible exact LeO.refl _)
      | (with_reducible exact LeO.none _)
      | (with_reducible refine LeO.ite ?_ ?_)
      | (with_reducible refine LeO.bind ?_ (fun _ => ?_))
      | exact ih0 _ _ _ _ _
      | exact LeO.none _
      | refine LeO.ite ?_ ?_
      | refine LeO.bind ?_ (fun _ => ?_)
set_option maxHeartbeats 8000000 in
set_option maxRecDepth 100000 in
theorem keep_Floor.calls (k : Nat) (A0 : Option Addr) (c0 : Nat) (l0 : List Int) (a1 : Int) (r : Int) (w : World) (hr0 : Kd.C (Kd.int .i64) w A0 l0.length l0) (hc0 : l0.length ≤ c0) (h : keep_Floor.f k l0 a1 = some r) :
    Calls Try.prog 9 #[.slice A0 l0.length c0, .int .i64 a1] w fun e w' => e = .returned (.int .i64 r) ∧ Drawn0 w w' := by
  have HR0 := Aside0.mk hr0
  have HC0 := Aside0.mk hc0
  clear hr0 hc0
  have H : (keep_Floor.l0 k a1 0 l0 (l0.length : Int) 0) = some r := h
  clear h
  have H' := Aside0.mk H
  clear H
  go_enter Try.func9, Try.ntmps9
  go_wp2
  go_loopg [5, 10] k (fun kq v5 v10 w' => ∃ (x5_1 : Int) (x10_1 : Int), v5 = .int .i64 x5_1 ∧ v10 = .int .i64 x10_1 ∧ Aside0 (keep_Floor.l0 kq a1 x5_1 l0 (l0.length : Int) x10_1 = some r) ∧ Aside0 (kq ≤ k) ∧ Drawn0 w w')
  case atStart => exact ⟨(0), (0), (by first | rfl | (simp; done) | (simp [*]; done)), (by first | rfl | (simp; done) | (simp [*]; done)), H', ⟨Nat.le_refl _⟩, by repeat (first | exact Drawn0.refl _ | apply Drawn0.step)⟩
  case round =>
    clear H'
    try clear p2
    obtain ⟨x5_1, x10_1, rfl, rfl, HA, HK1, ⟨m1, rfl⟩⟩ := hrel
    cases gk with
    | zero => exact absurd HA.out (by simp [keep_Floor.l0])
    | succ k1 =>
      have H := HA.out
      clear HA
      simp only [keep_Floor.l0] at H
      by_cases c3 : x10_1 < (l0.length : Int)
      · rw [if_pos c3] at H
        have c3b0 : decide (x10_1 < (l0.length : Int)) = true := decide_eq_true c3
        clear c3
        by_cases c4 : 0 ≤ x10_1
        · rw [if_pos c4] at H
          have c4b0 : decide (0 ≤ x10_1) = true := decide_eq_true c4
          clear c4
          by_cases c5 : x10_1 < (l0.length : Int)
          · rw [if_pos c5] at H
            have c5b0 : decide (x10_1 < (l0.length : Int)) = true := decide_eq_true c5
            clear c5
            by_cases c6 : (rd l0 x10_1) > a1
            · rw [if_pos c6] at H
              have c6b0 : decide (a1 < (rd l0 x10_1)) = true := decide_eq_true c6
              clear c6
              obtain rfl := Option.some.inj H
              have p101 : 0 ≤ (x10_1 : Int) := of_decide_eq_true (by first | (with_reducible assumption) | assumption)
              have q101 : x10_1 < (l0.length : Int) := of_decide_eq_true (by first | (with_reducible assumption) | assumption)
              obtain ⟨ad101, e101, hx101_0⟩ := Kd.at_int HR0.out x10_1 p101 q101
              cases e101
              replace p101 := eq_true p101
              replace q101 := eq_true q101
              go_wp2
              go_ret
              exact ⟨by first | rfl | (simp; done) | (simp [*]; done), by repeat (first | exact Drawn0.refl _ | apply Drawn0.step)⟩
            · rw [if_neg c6] at H
              have c6b0 : decide (a1 < (rd l0 x10_1)) = false := decide_eq_false c6
              clear c6
              have H' := Aside0.mk H
              clear H
              have p101 : 0 ≤ (x10_1 : Int) := of_decide_eq_true (by first | (with_reducible assumption) | assumption)
              have q101 : x10_1 < (l0.length : Int) := of_decide_eq_true (by first | (with_reducible assumption) | assumption)
              obtain ⟨ad101, e101, hx101_0⟩ := Kd.at_int HR0.out x10_1 p101 q101
              cases e101
              replace p101 := eq_true p101
              replace q101 := eq_true q101
              go_wp2
              go_roundg k1
              case measure => have := HK1.out; omega
              case rel => exact ⟨(x10_1), (wrap64 (x10_1 + 1)), (by first | rfl | (simp; done) | (simp [*]; done)), (by first | rfl | (simp; done) | (simp [*]; done)), H', ⟨by have := HK1.out; omega⟩, by repeat (first | exact Drawn0.refl _ | apply Drawn0.step)⟩
          · rw [if_neg c5] at H
            exact absurd H (by simp)
        · rw [if_neg c4] at H
          exact absurd H (by simp)
      · rw [if_neg c3] at H
        have c3b0 : decide (x10_1 < (l0.length : Int)) = false := decide_eq_false c3
        clear c3
        obtain rfl := Option.some.inj H
        go_wp2
        go_ret
        exact ⟨by first | rfl | (simp; done) | (simp [*]; done), by repeat (first | exact Drawn0.refl _ | apply Drawn0.step)⟩
end Go.Proofs.Ytilbackjamjonaa.F
end
section
namespace Go.Proofs.Ytilbackjamjonaa.F
open Go.RowKit Go.Proofs.YtilbackjamjonaaW.PrintWords Go.Proofs.YtilbackjamjonaaW.PrintLast Go.Proofs.YtilbackjamjonaaW.PrintMore
set_option linter.unusedVariables false
set_option linter.unusedSimpArgs false
def above (r : Int) (l : List Int) : Nat := l.findIdx (fun x => decide (r < x))
theorem above_le (r : Int) (l : List Int) : above r l ≤ l.length := List.findIdx_le_length
theorem above_step (r : Int) (l : List Int) (i : Nat) (h : i ≤ above r l) (hi : i < l.length) (hp : decide (r < l.getD i 0) = false) : i + 1 ≤ above r l := by
  rcases Nat.lt_or_ge i (above r l) with h1 | h1
  · exact h1
  · have e : i = above r l := by omega
    have hlt : l.findIdx (fun x => decide (r < x)) < l.length := by unfold above at e; omega
    have := List.findIdx_getElem (w := hlt)
    unfold above at e
    subst e
    rw [List.getD_eq_getElem?_getD, List.getElem?_eq_getElem hlt] at hp
    simp at hp this
    omega
theorem above_here (r : Int) (l : List Int) (i : Nat) (h : i ≤ above r l) (hi : i < l.length) (hp : decide (r < l.getD i 0) = true) : above r l = i := by
  rcases Nat.lt_or_ge i (above r l) with h1 | h1
  · have := List.not_of_lt_findIdx h1
    rw [List.getD_eq_getElem?_getD, List.getElem?_eq_getElem hi] at hp
    simp at hp this
    omega
  · omega
end Go.Proofs.Ytilbackjamjonaa.F
end
section
namespace Go.Proofs.Ytilbackjamjonaa.F
open Go.RowKit Go.Proofs.YtilbackjamjonaaW.PrintWords Go.Proofs.YtilbackjamjonaaW.PrintLast Go.Proofs.YtilbackjamjonaaW.PrintMore
set_option linter.unusedVariables false
set_option linter.unusedSimpArgs false
def floorOf (l : List Int) (a : Int) : Nat := above a l - 1
theorem keep_Floor_from (l : List Int) (a : Int) (hm : l.length ≤ 9223372036854775807) : ∀ d i : Nat, l.length - i = d → i ≤ above a l → i ≤ l.length →
    keep_Floor.l0 (d + 1) a ((i - 1 : Nat) : Int) l (l.length : Int) i = some (floorOf l a : Int) := by
  intro d
  have hle := above_le a l
  induction d with
  | zero =>
    intro i hd hi hn
    simp only [keep_Floor.l0]
    rw [if_neg (by omega)]
    have : above a l = i := by omega
    unfold floorOf
    rw [this]
  | succ d ih =>
    intro i hd hi hn
    simp only [keep_Floor.l0]
    rw [if_pos (by omega), if_pos (by omega), if_pos (by omega)]
    by_cases hp : rd l i > a
    · rw [if_pos hp, floorOf, above_here a l i hi (by omega) (by simpa [rd] using hp)]
    · rw [if_neg hp, show wrap64 ((i : Int) + 1) = ((i + 1 : Nat) : Int) by unfold wrap64; omega]
      have := ih (i + 1) (by omega) (above_step a l i hi (by omega) (by simpa [rd] using hp)) (by omega)
      rw [show i + 1 - 1 = i by omega] at this
      exact this
theorem keep_Floor_is (l : List Int) (a : Int) (hm : l.length ≤ 9223372036854775807) : keep_Floor.f (l.length + 1) l a = some (floorOf l a : Int) := by
  have := keep_Floor_from l a hm l.length 0 (by omega) (by omega) (by omega)
  simpa [keep_Floor.f] using this
theorem floorOf_lt (l : List Int) (a : Int) (h : 0 < l.length) : floorOf l a < l.length := by
  have := above_le a l
  unfold floorOf
  omega
def wants (l set : List Int) (x : Int) : Bool := x == rd l 0 || x == rd l (l.length - 1) || set.contains x
def keptOf (l set : List Int) : List Int := l.filter (wants l set)
def isInt (x : Int) : Bool := decide (-9223372036854775808 ≤ x ∧ x ≤ 9223372036854775807)
def keep_Of.f (l set : List Int) (floor : Int) : Option (List Int) :=
  if 0 < l.length ∧ l.length < 17592186044416 ∧ set.length < 17592186044416 ∧ l.all isInt = true ∧ set.all isInt = true then some (keptOf (l.drop (floorOf l floor)) set) else none
theorem wf_isInt {x : Int} (h : isInt x = true) : (Lit.int .i64 x).wf = true := by
  unfold isInt at h
  simp at h
  simp [Lit.wf, IntKind.min, IntKind.max, IntKind.bits, IntKind.signed]
  omega
def OwnsSet (w : World) (b n : Nat) (S : Int → Bool) : Prop :=
  ∃ D : DataW Unit, w.ownsMap Try.prog 3 (plainElem Try.prog 4) b n D ∧ Maps.IsMap D ∧ ∀ x : Int, D.atKey (.int .i64 x) (.lit (.bool false)) = .lit (.bool (S x))
theorem ownsSet_made (w : World) : OwnsSet (w.alloc (.map #[] 0)) w.heap.size 0 (fun _ => false) :=
  ⟨.map [], World.ownsMap_made _ _ _ _, Maps.isMap_empty, fun x => by simp [DataW.atKey]⟩
theorem ownsSet_put {w : World} {b n : Nat} {S : Int → Bool} (h : OwnsSet w b n S) (hn : n < maxLen) {x : Int} (hx : isInt x = true) :
    ∃ w1, (Instr.mapUpdate 30 (.map (some b)) (.int .i64 x) (.bool true)).run Try.prog w = .ok () w1 ∧ OwnsSet w1 b (n + 1) (fun y => y == x || S y) ∧ w.grownBy w1 (some b) := by
  obtain ⟨D, ho, hm, hs⟩ := h
  obtain ⟨w1, hr, ho1, hg⟩ := ho.update (Maps.int_keyed Try.underlying3) Try.underlying30 hn (Maps.keyOf_int_mk Try.underlying3 (wf_isInt hx)) (plainElem_bool Try.underlying4 true)
  refine ⟨w1, hr, ⟨_, ho1, hm.put _ _, fun y => ?_⟩, hg⟩
  by_cases e : y = x
  · subst e
    rw [Maps.atKey_put_same hm (by simp [WideAt.IsKeyLit])]
    simp
  · rw [Maps.atKey_put_other (by intro h; injection h with _ h; exact e h), hs]
    simp [e]
theorem plainElem_bool_inv {v : Value} {z : DataW Unit × List MemPlace} (h : plainElem Try.prog 4 v = some z) : ∃ x, v = .bool x ∧ z = (.lit (.bool x), []) := by
  unfold plainElem at h
  rw [Try.underlying4] at h
  cases v <;> simp at h
  exact ⟨_, rfl, h.symm⟩
theorem ownsSet_get {w : World} {b n : Nat} {S : Int → Bool} (h : OwnsSet w b n S) {x : Int} (hx : isInt x = true) :
    (Instr.lookup 30 (.map (some b)) (.int .i64 x) false).run Try.prog w = .ok (.bool (S x)) w := by
  obtain ⟨D, ho, hm, hs⟩ := h
  obtain ⟨v, ps, hr, hv⟩ := ho.lookup (Maps.int_keyed Try.underlying3) Try.underlying30 (z := .bool false) (by kernel_rfl) (plainElem_bool Try.underlying4 false) (Maps.keyOf_int_mk Try.underlying3 (wf_isInt hx))
  obtain ⟨y, rfl, hz⟩ := plainElem_bool_inv hv
  rw [hs] at hz
  simp at hz
  rw [hz.1]
  exact hr
theorem ownsSet_kept {w w1 : World} {b n : Nat} {S : Int → Bool} (h : OwnsSet w b n S) {row : Option Nat} (hg : w.grownBy w1 row) (hne : some b ≠ row) : OwnsSet w1 b n S := by
  obtain ⟨D, ho, hm, hs⟩ := h
  exact ⟨D, ho.kept hg hne, hm, hs⟩
theorem ownsSet_lt {w : World} {b n : Nat} {S : Int → Bool} (h : OwnsSet w b n S) : b < w.heap.size := by
  obtain ⟨D, ho, _⟩ := h
  exact ho.lt
theorem ownsSet_imp {w : World} {b n : Nat} {S S' : Int → Bool} (h : OwnsSet w b n S) (he : ∀ x, S x = S' x) : OwnsSet w b n S' := by
  obtain ⟨D, ho, hm, hs⟩ := h
  exact ⟨D, ho, hm, fun x => by rw [hs, he]⟩
theorem ownsSet_two {W0 W : World} {b : Nat} (hb : Below W0.heap.size W0 W) (hbs : W.heap.size = b) (x y : Int) (hx : isInt x = true) (hy : isInt y = true) :
    ∃ w1 w2, (Instr.mapUpdate 30 (.map (some b)) (.int .i64 x) (.bool true)).run Try.prog (W.alloc (.map #[] 0)) = .ok () w1 ∧ Below W0.heap.size W0 w1 ∧
      (Instr.mapUpdate 30 (.map (some b)) (.int .i64 y) (.bool true)).run Try.prog w1 = .ok () w2 ∧ Below W0.heap.size W0 w2 ∧ b < w2.heap.size ∧ OwnsSet w2 b 2 (fun z => z == x || z == y) := by
  subst hbs
  obtain ⟨w1, h1, o1, g1⟩ := ownsSet_put (ownsSet_made W) (by unfold maxLen; omega) hx
  have b0 := below_alloc hb (.map #[] 0)
  have b1 : Below W0.heap.size W0 w1 := pw_below_grown b0 (some W.heap.size) b0.size g1 (fun k e => by cases e; exact hb.size)
  obtain ⟨w2, h2, o2, g2⟩ := ownsSet_put o1 (by unfold maxLen; omega) hy
  have b2 : Below W0.heap.size W0 w2 := pw_below_grown b1 (some W.heap.size) b1.size g2 (fun k e => by cases e; exact hb.size)
  refine ⟨w1, w2, h1, b1, h2, b2, ownsSet_lt o2, ownsSet_imp o2 fun z => ?_⟩
  simp [Bool.or_comm]
theorem rd_all {l : List Int} {i : Int} (h : l.all isInt = true) (h0 : 0 ≤ i) (h1 : i < l.length) : isInt (rd l i) = true := by
  unfold rd
  rw [List.getD_eq_getElem?_getD, List.getElem?_eq_getElem (by omega)]
  exact List.all_eq_true.mp h _ (List.getElem_mem _)
theorem take_contains (l : List Int) (i : Nat) (h : i < l.length) (x : Int) : (l.take (i + 1)).contains x = ((x == rd l i) || (l.take i).contains x) := by
  rw [List.take_succ_eq_append_getElem h]
  have : rd l i = l[i] := by simp [rd, List.getD_eq_getElem?_getD, h]
  rw [this]
  simp only [List.contains_eq_mem, List.mem_append, List.mem_singleton]
  by_cases e : x = l[i] <;> simp [e, Bool.or_comm]
theorem filter_take (p : Int → Bool) (l : List Int) (i : Nat) (h : i < l.length) : (l.take (i + 1)).filter p = (l.take i).filter p ++ (if p (rd l i) = true then [rd l i] else []) := by
  rw [List.take_succ_eq_append_getElem h]
  have : rd l i = l[i] := by simp [rd, List.getD_eq_getElem?_getD, h]
  rw [this, List.filter_append]
  by_cases e : p l[i] = true
  · simp [e]
  · simp [e]
set_option maxHeartbeats 4000000 in
theorem keep_Of.calls (A0 : Option Addr) (c0 : Nat) (l0 : List Int) (A1 : Option Addr) (c1 : Nat) (l1 : List Int) (a2 : Int) (r : List Int) (w : World) (hr0 : Kd.C (Kd.int .i64) w A0 l0.length l0) (hc0 : l0.length ≤ c0) (hr1 : Kd.C (Kd.int .i64) w A1 l1.length l1) (hc1 : l1.length ≤ c1) (h : keep_Of.f l0 l1 a2 = some r) :
    Calls Try.prog 8 #[.slice A0 l0.length c0, .slice A1 l1.length c1, .int .i64 a2] w fun e w' => ∃ v0_ : Value, e = .returned (v0_) ∧ Kd.R (Kd.int .i64) 3 w' w.heap.size (fun _ => True) v0_ r ∧ Below w.heap.size w w' := by
  unfold keep_Of.f at h
  split at h
  · next hcd =>
    obtain ⟨hn, hbig, hbig1, hint, hint1⟩ := hcd
    obtain rfl := Option.some.inj h
    have HR0 := Aside0.mk hr0
    have HC0 := Aside0.mk hc0
    have HR1 := Aside0.mk hr1
    have HC1 := Aside0.mk hc1
    have HI1 := Aside0.mk hint1
    have HM : Aside0 (l0.length ≤ 9223372036854775807) := ⟨hr0.2.1⟩
    have HF := Aside0.mk (keep_Floor_is l0 a2 HM.out)
    have hlt := floorOf_lt l0 a2 (by omega)
    obtain ⟨fl, hfl⟩ : ∃ fl, floorOf l0 a2 = fl := ⟨_, rfl⟩
    rw [hfl] at HF hlt ⊢
    obtain ⟨i0, hi, hz0, hz1, hz2⟩ := info_parts info3
    have hcut := cut_from 22 3 .i64 Try.underlying22 hi 1 hz1 A0 l0.length c0 fl (by omega) (by omega)
    have hr := Kd.C_drop (m := fl) (c := c0) hr0 (by omega) hc0
    have hmx : (l0.drop fl).length < 17592186044416 := by rw [List.length_drop]; omega
    have hpos : 0 < (l0.drop fl).length := by rw [List.length_drop]; omega
    have hdi : (l0.drop fl).all isInt = true := by
      rw [List.all_eq_true] at hint ⊢
      exact fun x hx => hint x (List.mem_of_mem_drop hx)
    rw [if_neg (by omega)] at hr
    simp only [Int.toNat_natCast, Nat.mul_one, if_neg (show ¬ c0 = fl by omega)] at hcut
    obtain ⟨ad, rfl, _⟩ := hr0.2.2 (by omega)
    simp only [Option.map_some, show (Kd.int .i64).sz = 1 from rfl, Nat.mul_one] at hr hcut
    obtain ⟨bd, hbd⟩ : ∃ bd, ad.add fl = bd := ⟨_, rfl⟩
    rw [hbd] at hr hcut
    have hll : l0.length - fl = (l0.drop fl).length := by rw [List.length_drop]
    rw [hll] at hcut
    obtain ⟨lm, hlm⟩ : ∃ lm, l0.drop fl = lm := ⟨_, rfl⟩
    rw [hlm] at hr hcut hmx hpos hdi ⊢
    obtain ⟨cc, hcc⟩ : ∃ cc, c0 - fl = cc := ⟨_, rfl⟩
    rw [hcc] at hcut
    have HR := Aside0.mk hr
    have HMX := Aside0.mk hmx
    have HPOS := Aside0.mk hpos
    have HDI := Aside0.mk hdi
    have hw : wrap64 ((lm.length : Int) - 1) = (lm.length : Int) - 1 := by unfold wrap64; omega
    have HW := Aside0.mk hw
    obtain ⟨_, e, hx0⟩ := Kd.at_int hr 0 (by omega) (by omega)
    cases e
    replace hx0 : w.cell? bd = some (.int .i64 (rd lm 0)) := by simpa [Addr.add_zero'] using hx0
    obtain ⟨_, e, hx1⟩ := Kd.at_int hr (wrap64 ((lm.length : Int) - 1)) (by omega) (by omega)
    cases e
    have HX0 := Aside0.mk hx0
    have HX1 := Aside0.mk hx1
    have hp := eq_true hpos
    have p0 := eq_true (show 0 ≤ wrap64 ((lm.length : Int) - 1) by omega)
    have q0 := eq_true (show wrap64 ((lm.length : Int) - 1) < lm.length by omega)
    have hmm := @run_makeMap Try.prog
    have ia := rd_all hdi (i := 0) (by omega) (by omega)
    have ib := rd_all hdi (i := wrap64 ((lm.length : Int) - 1)) (by omega) (by omega)
    have two := fun n => ownsSet_two (pw_below_drewN (Below.refl w.heap.size w) n) (b := w.heap.size) rfl (rd lm 0) (rd lm (wrap64 ((lm.length : Int) - 1))) ia ib
    have two' := fun n => ownsSet_two (pw_below_drewN (Below.refl w.heap.size w) n) (b := w.heap.size) rfl (rd lm (wrap64 ((lm.length : Int) - 1))) (rd lm 0) ib ia
    have TWO := Aside0.mk two
    have TWO' := Aside0.mk two'
    clear hr0 hc0 hr1 hc1 h hr hmx hw hn hlt hfl hi hz0 hz1 hz2 hll hpos hbd hlm hcc two two' ia ib hdi hint1 hint hbig
    go_enter Try.func8, Try.ntmps8
    go_wp2_with (go_at_call 9; (with_reducible refine (keep_Floor.calls (l0.length + 1) _ _ l0 a2 fl _ ?side1 ?side2 HF.out).mono ?_); (case side1 => exact HR0.out); (case side2 => exact HC0.out); rintro e w' ⟨rfl, ⟨nd, rfl⟩⟩)
    obtain ⟨u1, u2, r1, b1, r2, b2, hsz, os⟩ := TWO.out (nd + 1)
    obtain ⟨t1, t2, s1, d1, s2, d2, hsz', os'⟩ := TWO'.out (nd + 1)
    have y0 : ((w.drewN (nd + 1)).alloc (Obj.map #[] 0)).cell? bd = some (.int .i64 (rd lm 0)) := ((below_alloc (pw_below_drewN (Below.refl w.heap.size w) (nd + 1)) (Obj.map #[] 0)).cell (World.block_lt_of_cell? w _ hx0)).trans hx0
    have y1 := ((below_alloc (pw_below_drewN (Below.refl w.heap.size w) (nd + 1)) (Obj.map #[] 0)).cell (World.block_lt_of_cell? w _ hx1)).trans hx1
    have y2 := (b1.cell (World.block_lt_of_cell? w _ hx1)).trans hx1
    have y3 : t1.cell? bd = some (.int .i64 (rd lm 0)) := (d1.cell (World.block_lt_of_cell? w _ hx0)).trans hx0
    clear TWO TWO'
    have BB2 := Aside0.mk b2
    have DD2 := Aside0.mk d2
    have OS := Aside0.mk os
    have OS' := Aside0.mk os'
    have SZ := Aside0.mk hsz
    have SZ' := Aside0.mk hsz'
    clear b1 b2 d1 d2 os os' hsz hsz'
    go_region
    · obtain ⟨HB, HO⟩ : Aside0 (Below w.heap.size w u2) ∧ Aside0 (OwnsSet u2 w.heap.size 2 (fun z => z == rd lm 0 || z == rd lm (wrap64 ((lm.length : Int) - 1)))) := ⟨BB2, OS⟩
      clear BB2 OS DD2 OS' SZ SZ' r1 r2 s1 s2 y0 y1 y2 y3 hcut hmm hx0 hx1 HX0 HX1
      go_wp2
      go_loopg [31] l1.length (fun kq v31 w' => ∃ i : Nat, v31 = .int .i64 i ∧ Aside0 (i ≤ l1.length) ∧ Aside0 (kq = l1.length - i) ∧ Aside0 (OwnsSet w' w.heap.size (2 + i) (fun z => (z == rd lm 0 || z == rd lm (wrap64 ((lm.length : Int) - 1))) || (l1.take i).contains z)) ∧ Aside0 (Below w.heap.size w w'))
      case atStart => exact ⟨0, rfl, ⟨Nat.zero_le _⟩, ⟨rfl⟩, ⟨ownsSet_imp HO.out (fun z => by simp)⟩, HB⟩
      case round =>
        clear HB HO
        obtain ⟨i, rfl, HI, HK, HO, HB⟩ := hrel
        by_cases hi : i < l1.length
        · obtain ⟨ad1, e, hx⟩ := Kd.at_int HR1.out i (by omega) (by omega)
          cases e
          replace hx := (HB.out.cell (World.block_lt_of_cell? w _ hx)).trans hx
          simp only [Int.toNat_natCast] at hx
          have hie := rd_all HI1.out (i := i) (by omega) (by omega)
          obtain ⟨w1, hr, ho, hg⟩ := ownsSet_put HO.out (by unfold maxLen; omega) hie
          have HO1 := Aside0.mk (ownsSet_imp ho (S' := fun z => (z == rd lm 0 || z == rd lm (wrap64 ((lm.length : Int) - 1))) || (l1.take (i + 1)).contains z) (fun z => by
            show (z == rd l1 i || ((z == rd lm 0 || z == rd lm (wrap64 ((lm.length : Int) - 1))) || (l1.take i).contains z)) = _
            rw [take_contains l1 i hi]
            cases (z == rd l1 i) <;> simp))
          have HB1 := Aside0.mk (pw_below_grown HB.out (some w.heap.size) HB.out.size hg (fun k e => by cases e; exact Nat.le_refl _))
          clear ho hg hie HO HB
          go_wp2
          go_roundg (l1.length - (i + 1))
          case measure => have := HK.out; omega
          case rel => exact ⟨i + 1, by go_num, ⟨by omega⟩, ⟨rfl⟩, HO1, HB1⟩
        · obtain rfl : i = l1.length := by have := HI.out; omega
          have HO1 := Aside0.mk (ownsSet_imp HO.out (S' := wants lm l1) (fun z => by unfold wants; rw [HW.out, List.take_of_length_le (Nat.le_refl _)]))
          clear HO hi HI HK
          go_wp2
          go_loopg [10, 40] lm.length (fun kq v10 v40 w' => ∃ i : Nat, v40 = .int .i64 i ∧ Aside0 (i ≤ lm.length) ∧ Aside0 (kq = lm.length - i) ∧ Aside0 (OwnsSet w' w.heap.size (2 + l1.length) (wants lm l1)) ∧ Aside0 (Below w.heap.size w w') ∧ Aside0 (Kd.R (Kd.int .i64) 3 w' w.heap.size (fun k => k ≠ w.heap.size) v10 ((lm.take i).filter (wants lm l1))))
          case atStart => exact ⟨0, rfl, ⟨Nat.zero_le _⟩, ⟨rfl⟩, HO1, HB, ⟨Kd.R_nil _ _ _ _ _⟩⟩
          case round =>
            clear HB HO1
            obtain ⟨i, rfl, HI, HK, HO, HB, HV⟩ := hrel
            by_cases hi : i < lm.length
            · obtain ⟨ad1, e, hx⟩ := Kd.at_int HR.out i (by omega) (by omega)
              cases e
              replace hx := (HB.out.cell (World.block_lt_of_cell? w _ hx)).trans hx
              simp only [Int.toNat_natCast] at hx
              have hie := rd_all HDI.out (i := i) (by omega) (by omega)
              have hlk := ownsSet_get HO.out hie
              have hft := filter_take (wants lm l1) lm i hi
              have hlen : ((lm.take i).filter (wants lm l1)).length ≤ i := Nat.le_trans (List.length_filter_le _ _) (List.length_take_le _ _)
              cases hwt : wants lm l1 (rd lm i) with
              | true =>
                rw [hwt] at hlk
                rw [hwt, if_pos rfl] at hft
                have HFT := Aside0.mk hft
                have HLEN := Aside0.mk hlen
                clear hft hlen hie hwt
                go_wp2_with (first | ((with_reducible refine gate_builtin (b := .append) (xs := #[.tmp 47, .tmp 49]) rfl ?_); at_builtin; refine Kd.R_append (Kd.int .i64) (w0 := w) w.heap.size rfl (.tmp 47) (.tmp 49) 22 3 (.int .i64 0) 8 rfl Try.underlying22 info3 rfl (by decide) (by omega) u10 ((lm.take i).filter (wants lm l1)) (rd lm i) [.int .i64 (rd lm i)] (fun k => k ≠ w.heap.size) (fun _ => False) rfl rfl ?aP (fun _ hk => hk.elim) ?aF ?aO ?aB ?aS ?aL ?_; (case aP => exact rfl); (case aB => exact HB.out); (case aF => exact (fun k hk e => by have := ownsSet_lt HO.out; subst e; exact Nat.lt_irrefl _ (Nat.lt_of_lt_of_le this hk))); (case aO => exact HV.out); (case aS => exact HB.out.size); (case aL => have := HLEN.out; have := HMX.out; omega); intro v136 w11 ho hb hg hat; have n0_ := Aside0.mk hb; have n1_ := Aside0.mk ho; have n2_ := Aside0.mk (ownsSet_kept HO.out hg (fun e => HV.out.1 _ e.symm rfl)); clear ho hb hg hat))
                go_roundg (lm.length - (i + 1))
                case measure => have := HK.out; omega
                case rel => exact ⟨i + 1, (by have hmx_ := HMX.out; rw [show wrap64 ((i : Int) + 1) = ((i + 1 : Nat) : Int) by unfold wrap64; omega]), ⟨by omega⟩, ⟨rfl⟩, n2_, n0_, ⟨by rw [HFT.out]; exact n1_.out⟩⟩
              | false =>
                rw [hwt] at hlk
                rw [hwt, if_neg (by decide), List.append_nil] at hft
                have HFT := Aside0.mk hft
                clear hft hlen hie hwt
                go_wp2
                go_roundg (lm.length - (i + 1))
                case measure => have := HK.out; omega
                case rel => exact ⟨i + 1, (by have hmx_ := HMX.out; rw [show wrap64 ((i : Int) + 1) = ((i + 1 : Nat) : Int) by unfold wrap64; omega]), ⟨by omega⟩, ⟨rfl⟩, HO, HB, ⟨by rw [HFT.out]; exact HV.out⟩⟩
            · obtain rfl : i = lm.length := by have := HI.out; omega
              clear hi HI HK
              go_wp2
              go_ret
              exact ⟨_, rfl, Kd.R_mono (by have := HV.out; rw [List.take_of_length_le (Nat.le_refl _)] at this; exact this) (fun _ _ => trivial), HB.out⟩
    · obtain ⟨HB, HO⟩ : Aside0 (Below w.heap.size w t2) ∧ Aside0 (OwnsSet t2 w.heap.size 2 (fun z => z == rd lm 0 || z == rd lm (wrap64 ((lm.length : Int) - 1)))) := ⟨DD2, ⟨ownsSet_imp OS'.out (fun z => Bool.or_comm _ _)⟩⟩
      clear BB2 OS DD2 OS' SZ SZ' r1 r2 s1 s2 y0 y1 y2 y3 hcut hmm hx0 hx1 HX0 HX1
      go_wp2
      go_loopg [31] l1.length (fun kq v31 w' => ∃ i : Nat, v31 = .int .i64 i ∧ Aside0 (i ≤ l1.length) ∧ Aside0 (kq = l1.length - i) ∧ Aside0 (OwnsSet w' w.heap.size (2 + i) (fun z => (z == rd lm 0 || z == rd lm (wrap64 ((lm.length : Int) - 1))) || (l1.take i).contains z)) ∧ Aside0 (Below w.heap.size w w'))
      case atStart => exact ⟨0, rfl, ⟨Nat.zero_le _⟩, ⟨rfl⟩, ⟨ownsSet_imp HO.out (fun z => by simp)⟩, HB⟩
      case round =>
        clear HB HO
        obtain ⟨i, rfl, HI, HK, HO, HB⟩ := hrel
        by_cases hi : i < l1.length
        · obtain ⟨ad1, e, hx⟩ := Kd.at_int HR1.out i (by omega) (by omega)
          cases e
          replace hx := (HB.out.cell (World.block_lt_of_cell? w _ hx)).trans hx
          simp only [Int.toNat_natCast] at hx
          have hie := rd_all HI1.out (i := i) (by omega) (by omega)
          obtain ⟨w1, hr, ho, hg⟩ := ownsSet_put HO.out (by unfold maxLen; omega) hie
          have HO1 := Aside0.mk (ownsSet_imp ho (S' := fun z => (z == rd lm 0 || z == rd lm (wrap64 ((lm.length : Int) - 1))) || (l1.take (i + 1)).contains z) (fun z => by
            show (z == rd l1 i || ((z == rd lm 0 || z == rd lm (wrap64 ((lm.length : Int) - 1))) || (l1.take i).contains z)) = _
            rw [take_contains l1 i hi]
            cases (z == rd l1 i) <;> simp))
          have HB1 := Aside0.mk (pw_below_grown HB.out (some w.heap.size) HB.out.size hg (fun k e => by cases e; exact Nat.le_refl _))
          clear ho hg hie HO HB
          go_wp2
          go_roundg (l1.length - (i + 1))
          case measure => have := HK.out; omega
          case rel => exact ⟨i + 1, by go_num, ⟨by omega⟩, ⟨rfl⟩, HO1, HB1⟩
        · obtain rfl : i = l1.length := by have := HI.out; omega
          have HO1 := Aside0.mk (ownsSet_imp HO.out (S' := wants lm l1) (fun z => by unfold wants; rw [HW.out, List.take_of_length_le (Nat.le_refl _)]))
          clear HO hi HI HK
          go_wp2
          go_loopg [10, 40] lm.length (fun kq v10 v40 w' => ∃ i : Nat, v40 = .int .i64 i ∧ Aside0 (i ≤ lm.length) ∧ Aside0 (kq = lm.length - i) ∧ Aside0 (OwnsSet w' w.heap.size (2 + l1.length) (wants lm l1)) ∧ Aside0 (Below w.heap.size w w') ∧ Aside0 (Kd.R (Kd.int .i64) 3 w' w.heap.size (fun k => k ≠ w.heap.size) v10 ((lm.take i).filter (wants lm l1))))
          case atStart => exact ⟨0, rfl, ⟨Nat.zero_le _⟩, ⟨rfl⟩, HO1, HB, ⟨Kd.R_nil _ _ _ _ _⟩⟩
          case round =>
            clear HB HO1
            obtain ⟨i, rfl, HI, HK, HO, HB, HV⟩ := hrel
            by_cases hi : i < lm.length
            · obtain ⟨ad1, e, hx⟩ := Kd.at_int HR.out i (by omega) (by omega)
              cases e
              replace hx := (HB.out.cell (World.block_lt_of_cell? w _ hx)).trans hx
              simp only [Int.toNat_natCast] at hx
              have hie := rd_all HDI.out (i := i) (by omega) (by omega)
              have hlk := ownsSet_get HO.out hie
              have hft := filter_take (wants lm l1) lm i hi
              have hlen : ((lm.take i).filter (wants lm l1)).length ≤ i := Nat.le_trans (List.length_filter_le _ _) (List.length_take_le _ _)
              cases hwt : wants lm l1 (rd lm i) with
              | true =>
                rw [hwt] at hlk
                rw [hwt, if_pos rfl] at hft
                have HFT := Aside0.mk hft
                have HLEN := Aside0.mk hlen
                clear hft hlen hie hwt
                go_wp2_with (first | ((with_reducible refine gate_builtin (b := .append) (xs := #[.tmp 47, .tmp 49]) rfl ?_); at_builtin; refine Kd.R_append (Kd.int .i64) (w0 := w) w.heap.size rfl (.tmp 47) (.tmp 49) 22 3 (.int .i64 0) 8 rfl Try.underlying22 info3 rfl (by decide) (by omega) u10 ((lm.take i).filter (wants lm l1)) (rd lm i) [.int .i64 (rd lm i)] (fun k => k ≠ w.heap.size) (fun _ => False) rfl rfl ?aP (fun _ hk => hk.elim) ?aF ?aO ?aB ?aS ?aL ?_; (case aP => exact rfl); (case aB => exact HB.out); (case aF => exact (fun k hk e => by have := ownsSet_lt HO.out; subst e; exact Nat.lt_irrefl _ (Nat.lt_of_lt_of_le this hk))); (case aO => exact HV.out); (case aS => exact HB.out.size); (case aL => have := HLEN.out; have := HMX.out; omega); intro v136 w11 ho hb hg hat; have n0_ := Aside0.mk hb; have n1_ := Aside0.mk ho; have n2_ := Aside0.mk (ownsSet_kept HO.out hg (fun e => HV.out.1 _ e.symm rfl)); clear ho hb hg hat))
                go_roundg (lm.length - (i + 1))
                case measure => have := HK.out; omega
                case rel => exact ⟨i + 1, (by have hmx_ := HMX.out; rw [show wrap64 ((i : Int) + 1) = ((i + 1 : Nat) : Int) by unfold wrap64; omega]), ⟨by omega⟩, ⟨rfl⟩, n2_, n0_, ⟨by rw [HFT.out]; exact n1_.out⟩⟩
              | false =>
                rw [hwt] at hlk
                rw [hwt, if_neg (by decide), List.append_nil] at hft
                have HFT := Aside0.mk hft
                clear hft hlen hie hwt
                go_wp2
                go_roundg (lm.length - (i + 1))
                case measure => have := HK.out; omega
                case rel => exact ⟨i + 1, (by have hmx_ := HMX.out; rw [show wrap64 ((i : Int) + 1) = ((i + 1 : Nat) : Int) by unfold wrap64; omega]), ⟨by omega⟩, ⟨rfl⟩, HO, HB, ⟨by rw [HFT.out]; exact HV.out⟩⟩
            · obtain rfl : i = lm.length := by have := HI.out; omega
              clear hi HI HK
              go_wp2
              go_ret
              exact ⟨_, rfl, Kd.R_mono (by have := HV.out; rw [List.take_of_length_le (Nat.le_refl _)] at this; exact this) (fun _ _ => trivial), HB.out⟩
  · cases h
end Go.Proofs.Ytilbackjamjonaa.F
end
section
namespace Go.Proofs.Ytilbackjamjonaa.F
open Go.RowKit Go.Proofs.YtilbackjamjonaaW.PrintWords Go.Proofs.YtilbackjamjonaaW.PrintLast Go.Proofs.YtilbackjamjonaaW.PrintMore
attribute [local go_sem] max2_int min2_int max_two min_two max_three min_three max_four min_four cell_setCell_isSome
set_option linter.unusedVariables false
set_option linter.unusedSimpArgs false
def epitomelaw18_shown.f (k : Nat)  : Option (Bool) := (keep_Of.f (([0, 1, 2, 3, 4, 5] : List Int)) (([3, 9, (-1)] : List Int)) 1).bind fun t107 => ((epitomeref15_SameRow.f k t107 (([1, 3, 5] : List Int))).bind fun t113 => (if t113 = true then ((keep_Floor.f k (([2, 4] : List Int)) 5).bind fun t117 => (some (t117 == 1))) else (some false)))
theorem epitomelaw18_shown.mono : ∀ k, LeO (epitomelaw18_shown.f k ) (epitomelaw18_shown.f (k + 1) ) := by
  intro  k
  unfold epitomelaw18_shown.f
  repeat' first
      | (with_reducible exact epitomeref15_SameRow.mono _ _ _)
      | (with_reducible exact keep_Floor.mono _ _ _)
      | (with_reducible exact LeO.refl _)
      | (with_reducible exact LeO.none _)
      | (with_reducible refine LeO.ite ?_ ?_)
      | (with_reducible refine LeO.bind ?_ (fun _ => ?_))
      | exact epitomeref15_SameRow.mono _ _ _
      | exact keep_Floor.mono _ _ _
      | exact LeO.none _
      | refine LeO.ite ?_ ?_
      | refine LeO.bind ?_ (fun _ => ?_)
set_option maxHeartbeats 8000000 in
set_option maxRecDepth 100000 in
theorem epitomelaw18_shown.calls (k : Nat)  (r : Bool) (w : World) (h : epitomelaw18_shown.f k  = some r) :
    Calls Try.prog 5 #[] w fun e w' => e = .returned (.bool r) ∧ Below w.heap.size w w' := by
  have HB := Aside0.mk (Below.refl w.heap.size w)
  have H : ((keep_Of.f (([0, 1, 2, 3, 4, 5] : List Int)) (([3, 9, (-1)] : List Int)) 1).bind fun t107 => ((epitomeref15_SameRow.f k t107 (([1, 3, 5] : List Int))).bind fun t113 => (if t113 = true then ((keep_Floor.f k (([2, 4] : List Int)) 5).bind fun t117 => (some (t117 == 1))) else (some false)))) = some r := h
  clear h
  obtain ⟨y101, hy101⟩ : ∃ y_ : List Int, y_ = (([0, 1, 2, 3, 4, 5] : List Int)) := ⟨_, rfl⟩
  replace H : ((keep_Of.f y101 (([3, 9, (-1)] : List Int)) 1).bind fun t107 => ((epitomeref15_SameRow.f k t107 (([1, 3, 5] : List Int))).bind fun t113 => (if t113 = true then ((keep_Floor.f k (([2, 4] : List Int)) 5).bind fun t117 => (some (t117 == 1))) else (some false)))) = some r := by first | (rw [hy101]; with_reducible exact H) | (have H2_ := (Option.bind_some _ _).symm.trans H; rw [hy101]; with_reducible exact H2_) | (have H2_ := (Option.bind_some _ _).symm.trans H; with_reducible exact H2_) | with_reducible exact H | (rw [hy101]; exact H) | exact H
  have Ny101 := Aside0.mk hy101
  clear hy101
  obtain ⟨y104, hy104⟩ : ∃ y_ : List Int, y_ = (([3, 9, (-1)] : List Int)) := ⟨_, rfl⟩
  replace H : ((keep_Of.f y101 y104 1).bind fun t107 => ((epitomeref15_SameRow.f k t107 (([1, 3, 5] : List Int))).bind fun t113 => (if t113 = true then ((keep_Floor.f k (([2, 4] : List Int)) 5).bind fun t117 => (some (t117 == 1))) else (some false)))) = some r := by first | (rw [hy104]; with_reducible exact H) | (have H2_ := (Option.bind_some _ _).symm.trans H; rw [hy104]; with_reducible exact H2_) | (have H2_ := (Option.bind_some _ _).symm.trans H; with_reducible exact H2_) | with_reducible exact H | (rw [hy104]; exact H) | exact H
  have Ny104 := Aside0.mk hy104
  clear hy104
  replace H := Option.bind_eq_some_iff.mp H
  obtain ⟨t107, A10, H⟩ := H
  replace H : ((epitomeref15_SameRow.f k t107 (([1, 3, 5] : List Int))).bind fun t113 => (if t113 = true then ((keep_Floor.f k (([2, 4] : List Int)) 5).bind fun t117 => (some (t117 == 1))) else (some false))) = some r := H
  have A1 := Aside0.mk A10
  clear A10
  obtain ⟨y110, hy110⟩ : ∃ y_ : List Int, y_ = (([1, 3, 5] : List Int)) := ⟨_, rfl⟩
  replace H : ((epitomeref15_SameRow.f k t107 y110).bind fun t113 => (if t113 = true then ((keep_Floor.f k (([2, 4] : List Int)) 5).bind fun t117 => (some (t117 == 1))) else (some false))) = some r := by first | (rw [hy110]; with_reducible exact H) | (have H2_ := (Option.bind_some _ _).symm.trans H; rw [hy110]; with_reducible exact H2_) | (have H2_ := (Option.bind_some _ _).symm.trans H; with_reducible exact H2_) | with_reducible exact H | (rw [hy110]; exact H) | exact H
  have Ny110 := Aside0.mk hy110
  clear hy110
  replace H := Option.bind_eq_some_iff.mp H
  obtain ⟨t113, A20, H⟩ := H
  replace H : (if t113 = true then ((keep_Floor.f k (([2, 4] : List Int)) 5).bind fun t117 => (some (t117 == 1))) else (some false)) = some r := H
  have A2 := Aside0.mk A20
  clear A20
  by_cases c3 : t113 = true
  · subst c3
    have H1 : ((keep_Floor.f k (([2, 4] : List Int)) 5).bind fun t117 => (some (t117 == 1))) = some r := by rw [if_pos rfl] at H; exact H
    clear H
    have H := H1
    clear H1
    obtain ⟨y114, hy114⟩ : ∃ y_ : List Int, y_ = (([2, 4] : List Int)) := ⟨_, rfl⟩
    replace H : ((keep_Floor.f k y114 5).bind fun t117 => (some (t117 == 1))) = some r := by first | (rw [hy114]; with_reducible exact H) | (have H2_ := (Option.bind_some _ _).symm.trans H; rw [hy114]; with_reducible exact H2_) | (have H2_ := (Option.bind_some _ _).symm.trans H; with_reducible exact H2_) | with_reducible exact H | (rw [hy114]; exact H) | exact H
    have Ny114 := Aside0.mk hy114
    clear hy114
    replace H := Option.bind_eq_some_iff.mp H
    obtain ⟨t117, A40, H⟩ := H
    replace H : (some (t117 == 1)) = some r := H
    have A4 := Aside0.mk A40
    clear A40
    obtain rfl := Option.some.inj H
    go_enter Try.func5, Try.ntmps5
    go_wp2_with (first | ((with_reducible refine gate_dst (N := 1) rfl ?_); (try (refine gate_guard (by rfl) ?_; dsimp only)); refine Kd.R_lit (Kd.int .i64) _ 3 ?hg (N := 1) ?hd (xs := ([0, 1, 2, 3, 4, 5] : List Int)) (inner := [.int .i64 0, .int .i64 1, .int .i64 2, .int .i64 3, .int .i64 4, .int .i64 5]) (ok := fun _ => True) (okp := fun _ => True) ?hr ?hp (fun _ hk => hk) trivial (Below.refl _ _) (Nat.le_refl _) (by simp) ?_; (case hd => rfl); (case hg => rfl); (case hr => first | (go_simp; done) | (go_simp; rfl)); (case hp => exact (Reps.one (show Kd.M (Kd.int .i64) _ _ _ 0 [.int .i64 0] from rfl) (Reps.one (show Kd.M (Kd.int .i64) _ _ _ 1 [.int .i64 1] from rfl) (Reps.one (show Kd.M (Kd.int .i64) _ _ _ 2 [.int .i64 2] from rfl) (Reps.one (show Kd.M (Kd.int .i64) _ _ _ 3 [.int .i64 3] from rfl) (Reps.one (show Kd.M (Kd.int .i64) _ _ _ 4 [.int .i64 4] from rfl) (Reps.one (show Kd.M (Kd.int .i64) _ _ _ 5 [.int .i64 5] from rfl) (Reps.none _ _)))))))); intro v102 w5 ho6 hb hg_ hnew_; clear hg_ hnew_; (first | rw [← Ny101.out] at ho6 | (simp only [Int.reduceToNat] at ho6; rw [← Ny101.out] at ho6)); have n0_ := Aside0.mk (Kd.R_lower ho6 (below_size (by repeat (first | (with_reducible first | exact HB.out | apply below_alloc | apply pw_below_drewN | apply below_drew1) | exact HB.out)))); have n1_ := Aside0.mk (below_step (by repeat (first | (with_reducible first | exact HB.out | apply below_alloc | apply pw_below_drewN | apply below_drew1) | exact HB.out)) hb); clear HB; have HO103 := n0_; have HB := n1_; clear n0_ n1_; clear hb ho6) | ((with_reducible refine gate_dst (N := 2) rfl ?_); (try (refine gate_guard (by rfl) ?_; dsimp only)); refine Kd.R_lit (Kd.int .i64) _ 3 ?hg (N := 2) ?hd (xs := ([3, 9, (-1)] : List Int)) (inner := [.int .i64 3, .int .i64 9, .int .i64 (-1)]) (ok := fun _ => True) (okp := fun _ => True) ?hr ?hp (fun _ hk => hk) trivial (Below.refl _ _) (Nat.le_refl _) (by simp) ?_; (case hd => rfl); (case hg => rfl); (case hr => first | (go_simp; done) | (go_simp; rfl)); (case hp => exact (Reps.one (show Kd.M (Kd.int .i64) _ _ _ 3 [.int .i64 3] from rfl) (Reps.one (show Kd.M (Kd.int .i64) _ _ _ 9 [.int .i64 9] from rfl) (Reps.one (show Kd.M (Kd.int .i64) _ _ _ (-1) [.int .i64 (-1)] from rfl) (Reps.none _ _))))); intro v105 w7 ho8 hb hg_ hnew_; clear hg_ hnew_; (first | rw [← Ny104.out] at ho8 | (simp only [Int.reduceToNat] at ho8; rw [← Ny104.out] at ho8)); have n0_ := Aside0.mk (Kd.R_elder' (by (with_reducible repeat (first | apply Kd.R_alloc | apply Kd.R_drewN | apply Kd.R_drew)); exact HO103.out) (Kd.R_base ho8) hb); have n1_ := Aside0.mk (Kd.R_lower (Kd.R_new' ho8 (Kd.R_lt (by (with_reducible repeat (first | apply Kd.R_alloc | apply Kd.R_drewN | apply Kd.R_drew)); exact HO103.out))) (below_size (by repeat (first | (with_reducible first | exact HB.out | apply below_alloc | apply pw_below_drewN | apply below_drew1) | exact HB.out)))); have n2_ := Aside0.mk (below_step (by repeat (first | (with_reducible first | exact HB.out | apply below_alloc | apply pw_below_drewN | apply below_drew1) | exact HB.out)) hb); clear HO103; clear HB; have HO103 := n0_; have HO106 := n1_; have HB := n2_; clear n0_ n1_ n2_; clear hb ho8; obtain ⟨Ao9, co9, eo9⟩ := Kd.R_slice HO103.out; subst eo9; obtain ⟨Ao10, co10, eo10⟩ := Kd.R_slice HO106.out; subst eo10) | ((with_reducible refine gate_callee (f := 8) rfl ?_); refine goesL_ (some 3) rfl rfl Try.func8 (by kernel_rfl) rfl #[.slice Ao9 y101.length co9, .slice Ao10 y104.length co10, .int .i64 1] rfl (by (try simp only [List.map_toArray, List.map_cons, List.map_nil]); first | done | rfl | (simp only [List.length_drop, List.length_take]; rfl)) ?_; (with_reducible refine (keep_Of.calls _ _ y101 _ _ y104 1 t107 _ ?side1 ?side2 ?side3 ?side4 A1.out).mono ?_); (case side1 => repeat (first | exact (Kd.R_reads' HO103.out).2.2 | (with_reducible refine Kd.C_alloc ?_ _) | (with_reducible refine Kd.C_drewN ?_ _) | (with_reducible refine Kd.C_drew ?_))); (case side2 => exact (Kd.R_reads' HO103.out).2.1); (case side3 => repeat (first | exact (Kd.R_reads' HO106.out).2.2 | (with_reducible refine Kd.C_alloc ?_ _) | (with_reducible refine Kd.C_drewN ?_ _) | (with_reducible refine Kd.C_drew ?_))); (case side4 => exact (Kd.R_reads' HO106.out).2.1); rintro e w11 ⟨v108, rfl, ho0, hb⟩; refine ⟨_, rfl, ?_⟩; have n0_ := Aside0.mk (Kd.R_elder' (by (with_reducible repeat (first | apply Kd.R_alloc | apply Kd.R_drewN | apply Kd.R_drew)); exact HO103.out) (Kd.R_base ho0) hb); have n1_ := Aside0.mk (Kd.R_elder' (by (with_reducible repeat (first | apply Kd.R_alloc | apply Kd.R_drewN | apply Kd.R_drew)); exact HO106.out) (Kd.R_base ho0) hb); have n2_ := Aside0.mk (Kd.R_lower (Kd.R_new' (Kd.R_new' ho0 (Kd.R_lt (by (with_reducible repeat (first | apply Kd.R_alloc | apply Kd.R_drewN | apply Kd.R_drew)); exact HO103.out))) (Kd.R_lt (by (with_reducible repeat (first | apply Kd.R_alloc | apply Kd.R_drewN | apply Kd.R_drew)); exact HO106.out))) (below_size (by repeat (first | (with_reducible first | exact HB.out | apply below_alloc | apply pw_below_drewN | apply below_drew1) | exact HB.out)))); have n3_ := Aside0.mk (below_step (by repeat (first | (with_reducible first | exact HB.out | apply below_alloc | apply pw_below_drewN | apply below_drew1) | exact HB.out)) hb); clear HO103; clear HO106; clear HB; have HO103 := n0_; have HO106 := n1_; have HO109 := n2_; have HB := n3_; clear n0_ n1_ n2_ n3_; (try clear hb); (try clear hb2); (try clear hk); (try clear hi); (try clear ho0)) | ((with_reducible refine gate_dst (N := 4) rfl ?_); (try (refine gate_guard (by rfl) ?_; dsimp only)); refine Kd.R_lit (Kd.int .i64) _ 3 ?hg (N := 4) ?hd (xs := ([1, 3, 5] : List Int)) (inner := [.int .i64 1, .int .i64 3, .int .i64 5]) (ok := fun _ => True) (okp := fun _ => True) ?hr ?hp (fun _ hk => hk) trivial (Below.refl _ _) (Nat.le_refl _) (by simp) ?_; (case hd => rfl); (case hg => rfl); (case hr => first | (go_simp; done) | (go_simp; rfl)); (case hp => exact (Reps.one (show Kd.M (Kd.int .i64) _ _ _ 1 [.int .i64 1] from rfl) (Reps.one (show Kd.M (Kd.int .i64) _ _ _ 3 [.int .i64 3] from rfl) (Reps.one (show Kd.M (Kd.int .i64) _ _ _ 5 [.int .i64 5] from rfl) (Reps.none _ _))))); intro v111 w12 ho13 hb hg_ hnew_; clear hg_ hnew_; (first | rw [← Ny110.out] at ho13 | (simp only [Int.reduceToNat] at ho13; rw [← Ny110.out] at ho13)); have n0_ := Aside0.mk (Kd.R_elder' (by (with_reducible repeat (first | apply Kd.R_alloc | apply Kd.R_drewN | apply Kd.R_drew)); exact HO103.out) (Kd.R_base ho13) hb); have n1_ := Aside0.mk (Kd.R_elder' (by (with_reducible repeat (first | apply Kd.R_alloc | apply Kd.R_drewN | apply Kd.R_drew)); exact HO106.out) (Kd.R_base ho13) hb); have n2_ := Aside0.mk (Kd.R_elder' (by (with_reducible repeat (first | apply Kd.R_alloc | apply Kd.R_drewN | apply Kd.R_drew)); exact HO109.out) (Kd.R_base ho13) hb); have n3_ := Aside0.mk (Kd.R_lower (Kd.R_new' (Kd.R_new' (Kd.R_new' ho13 (Kd.R_lt (by (with_reducible repeat (first | apply Kd.R_alloc | apply Kd.R_drewN | apply Kd.R_drew)); exact HO103.out))) (Kd.R_lt (by (with_reducible repeat (first | apply Kd.R_alloc | apply Kd.R_drewN | apply Kd.R_drew)); exact HO106.out))) (Kd.R_lt (by (with_reducible repeat (first | apply Kd.R_alloc | apply Kd.R_drewN | apply Kd.R_drew)); exact HO109.out))) (below_size (by repeat (first | (with_reducible first | exact HB.out | apply below_alloc | apply pw_below_drewN | apply below_drew1) | exact HB.out)))); have n4_ := Aside0.mk (below_step (by repeat (first | (with_reducible first | exact HB.out | apply below_alloc | apply pw_below_drewN | apply below_drew1) | exact HB.out)) hb); clear HO103; clear HO106; clear HO109; clear HB; have HO103 := n0_; have HO106 := n1_; have HO109 := n2_; have HO112 := n3_; have HB := n4_; clear n0_ n1_ n2_ n3_ n4_; clear hb ho13; obtain ⟨Ao14, co14, eo14⟩ := Kd.R_slice HO109.out; subst eo14; obtain ⟨Ao15, co15, eo15⟩ := Kd.R_slice HO112.out; subst eo15) | ((with_reducible refine gate_callee (f := 11) rfl ?_); refine goesL_ (some 5) rfl rfl Try.func11 (by kernel_rfl) rfl #[.slice Ao14 t107.length co14, .slice Ao15 y110.length co15] rfl (by (try simp only [List.map_toArray, List.map_cons, List.map_nil]); first | done | rfl | (simp only [List.length_drop, List.length_take]; rfl)) ?_; (with_reducible refine (epitomeref15_SameRow.calls k _ _ t107 _ _ y110 true _ ?side1 ?side2 ?side3 ?side4 A2.out).mono ?_); (case side1 => repeat (first | exact (Kd.R_reads' HO109.out).2.2 | (with_reducible refine Kd.C_alloc ?_ _) | (with_reducible refine Kd.C_drewN ?_ _) | (with_reducible refine Kd.C_drew ?_))); (case side2 => exact (Kd.R_reads' HO109.out).2.1); (case side3 => repeat (first | exact (Kd.R_reads' HO112.out).2.2 | (with_reducible refine Kd.C_alloc ?_ _) | (with_reducible refine Kd.C_drewN ?_ _) | (with_reducible refine Kd.C_drew ?_))); (case side4 => exact (Kd.R_reads' HO112.out).2.1); rintro e w' ⟨rfl, ⟨nd, rfl⟩⟩; refine ⟨_, rfl, ?_⟩) | ((with_reducible refine gate_dst (N := 7) rfl ?_); (try (refine gate_guard (by rfl) ?_; dsimp only)); refine Kd.R_lit (Kd.int .i64) _ 3 ?hg (N := 7) ?hd (xs := ([2, 4] : List Int)) (inner := [.int .i64 2, .int .i64 4]) (ok := fun _ => True) (okp := fun _ => True) ?hr ?hp (fun _ hk => hk) trivial (Below.refl _ _) (Nat.le_refl _) (by simp) ?_; (case hd => rfl); (case hg => rfl); (case hr => first | (go_simp; done) | (go_simp; rfl)); (case hp => exact (Reps.one (show Kd.M (Kd.int .i64) _ _ _ 2 [.int .i64 2] from rfl) (Reps.one (show Kd.M (Kd.int .i64) _ _ _ 4 [.int .i64 4] from rfl) (Reps.none _ _)))); intro v115 w16 ho17 hb hg_ hnew_; clear hg_ hnew_; (first | rw [← Ny114.out] at ho17 | (simp only [Int.reduceToNat] at ho17; rw [← Ny114.out] at ho17)); have n0_ := Aside0.mk (Kd.R_elder' (by (with_reducible repeat (first | apply Kd.R_alloc | apply Kd.R_drewN | apply Kd.R_drew)); exact HO103.out) (Kd.R_base ho17) hb); have n1_ := Aside0.mk (Kd.R_elder' (by (with_reducible repeat (first | apply Kd.R_alloc | apply Kd.R_drewN | apply Kd.R_drew)); exact HO106.out) (Kd.R_base ho17) hb); have n2_ := Aside0.mk (Kd.R_elder' (by (with_reducible repeat (first | apply Kd.R_alloc | apply Kd.R_drewN | apply Kd.R_drew)); exact HO109.out) (Kd.R_base ho17) hb); have n3_ := Aside0.mk (Kd.R_elder' (by (with_reducible repeat (first | apply Kd.R_alloc | apply Kd.R_drewN | apply Kd.R_drew)); exact HO112.out) (Kd.R_base ho17) hb); have n4_ := Aside0.mk (Kd.R_lower (Kd.R_new' (Kd.R_new' (Kd.R_new' (Kd.R_new' ho17 (Kd.R_lt (by (with_reducible repeat (first | apply Kd.R_alloc | apply Kd.R_drewN | apply Kd.R_drew)); exact HO103.out))) (Kd.R_lt (by (with_reducible repeat (first | apply Kd.R_alloc | apply Kd.R_drewN | apply Kd.R_drew)); exact HO106.out))) (Kd.R_lt (by (with_reducible repeat (first | apply Kd.R_alloc | apply Kd.R_drewN | apply Kd.R_drew)); exact HO109.out))) (Kd.R_lt (by (with_reducible repeat (first | apply Kd.R_alloc | apply Kd.R_drewN | apply Kd.R_drew)); exact HO112.out))) (below_size (by repeat (first | (with_reducible first | exact HB.out | apply below_alloc | apply pw_below_drewN | apply below_drew1) | exact HB.out)))); have n5_ := Aside0.mk (below_step (by repeat (first | (with_reducible first | exact HB.out | apply below_alloc | apply pw_below_drewN | apply below_drew1) | exact HB.out)) hb); clear HO103; clear HO106; clear HO109; clear HO112; clear HB; have HO103 := n0_; have HO106 := n1_; have HO109 := n2_; have HO112 := n3_; have HO116 := n4_; have HB := n5_; clear n0_ n1_ n2_ n3_ n4_ n5_; clear hb ho17; obtain ⟨Ao18, co18, eo18⟩ := Kd.R_slice HO116.out; subst eo18) | (go_at_call 9; (with_reducible refine (keep_Floor.calls k _ _ y114 5 t117 _ ?side1 ?side2 A4.out).mono ?_); (case side1 => repeat (first | exact (Kd.R_reads' HO116.out).2.2 | (with_reducible refine Kd.C_alloc ?_ _) | (with_reducible refine Kd.C_drewN ?_ _) | (with_reducible refine Kd.C_drew ?_))); (case side2 => exact (Kd.R_reads' HO116.out).2.1); rintro e w' ⟨rfl, ⟨nd, rfl⟩⟩))
    go_ret
    exact ⟨by first | rfl | (simp [errW_none, errW_some] <;> rfl) | (simp [*, errW_none, errW_some] <;> rfl), by repeat (first | (with_reducible first | exact HB.out | apply below_alloc | apply pw_below_drewN | apply below_drew1) | exact HB.out)⟩
  · replace c3 := Bool.eq_false_iff.mpr c3
    subst c3
    have H1 : (some false) = some r := by rw [if_neg (show ¬ (false = true) by decide)] at H; exact H
    clear H
    have H := H1
    clear H1
    obtain rfl := Option.some.inj H
    go_enter Try.func5, Try.ntmps5
    go_wp2_with (first | ((with_reducible refine gate_dst (N := 1) rfl ?_); (try (refine gate_guard (by rfl) ?_; dsimp only)); refine Kd.R_lit (Kd.int .i64) _ 3 ?hg (N := 1) ?hd (xs := ([0, 1, 2, 3, 4, 5] : List Int)) (inner := [.int .i64 0, .int .i64 1, .int .i64 2, .int .i64 3, .int .i64 4, .int .i64 5]) (ok := fun _ => True) (okp := fun _ => True) ?hr ?hp (fun _ hk => hk) trivial (Below.refl _ _) (Nat.le_refl _) (by simp) ?_; (case hd => rfl); (case hg => rfl); (case hr => first | (go_simp; done) | (go_simp; rfl)); (case hp => exact (Reps.one (show Kd.M (Kd.int .i64) _ _ _ 0 [.int .i64 0] from rfl) (Reps.one (show Kd.M (Kd.int .i64) _ _ _ 1 [.int .i64 1] from rfl) (Reps.one (show Kd.M (Kd.int .i64) _ _ _ 2 [.int .i64 2] from rfl) (Reps.one (show Kd.M (Kd.int .i64) _ _ _ 3 [.int .i64 3] from rfl) (Reps.one (show Kd.M (Kd.int .i64) _ _ _ 4 [.int .i64 4] from rfl) (Reps.one (show Kd.M (Kd.int .i64) _ _ _ 5 [.int .i64 5] from rfl) (Reps.none _ _)))))))); intro v102 w19 ho20 hb hg_ hnew_; clear hg_ hnew_; (first | rw [← Ny101.out] at ho20 | (simp only [Int.reduceToNat] at ho20; rw [← Ny101.out] at ho20)); have n0_ := Aside0.mk (Kd.R_lower ho20 (below_size (by repeat (first | (with_reducible first | exact HB.out | apply below_alloc | apply pw_below_drewN | apply below_drew1) | exact HB.out)))); have n1_ := Aside0.mk (below_step (by repeat (first | (with_reducible first | exact HB.out | apply below_alloc | apply pw_below_drewN | apply below_drew1) | exact HB.out)) hb); clear HB; have HO103 := n0_; have HB := n1_; clear n0_ n1_; clear hb ho20) | ((with_reducible refine gate_dst (N := 2) rfl ?_); (try (refine gate_guard (by rfl) ?_; dsimp only)); refine Kd.R_lit (Kd.int .i64) _ 3 ?hg (N := 2) ?hd (xs := ([3, 9, (-1)] : List Int)) (inner := [.int .i64 3, .int .i64 9, .int .i64 (-1)]) (ok := fun _ => True) (okp := fun _ => True) ?hr ?hp (fun _ hk => hk) trivial (Below.refl _ _) (Nat.le_refl _) (by simp) ?_; (case hd => rfl); (case hg => rfl); (case hr => first | (go_simp; done) | (go_simp; rfl)); (case hp => exact (Reps.one (show Kd.M (Kd.int .i64) _ _ _ 3 [.int .i64 3] from rfl) (Reps.one (show Kd.M (Kd.int .i64) _ _ _ 9 [.int .i64 9] from rfl) (Reps.one (show Kd.M (Kd.int .i64) _ _ _ (-1) [.int .i64 (-1)] from rfl) (Reps.none _ _))))); intro v105 w21 ho22 hb hg_ hnew_; clear hg_ hnew_; (first | rw [← Ny104.out] at ho22 | (simp only [Int.reduceToNat] at ho22; rw [← Ny104.out] at ho22)); have n0_ := Aside0.mk (Kd.R_elder' (by (with_reducible repeat (first | apply Kd.R_alloc | apply Kd.R_drewN | apply Kd.R_drew)); exact HO103.out) (Kd.R_base ho22) hb); have n1_ := Aside0.mk (Kd.R_lower (Kd.R_new' ho22 (Kd.R_lt (by (with_reducible repeat (first | apply Kd.R_alloc | apply Kd.R_drewN | apply Kd.R_drew)); exact HO103.out))) (below_size (by repeat (first | (with_reducible first | exact HB.out | apply below_alloc | apply pw_below_drewN | apply below_drew1) | exact HB.out)))); have n2_ := Aside0.mk (below_step (by repeat (first | (with_reducible first | exact HB.out | apply below_alloc | apply pw_below_drewN | apply below_drew1) | exact HB.out)) hb); clear HO103; clear HB; have HO103 := n0_; have HO106 := n1_; have HB := n2_; clear n0_ n1_ n2_; clear hb ho22; obtain ⟨Ao23, co23, eo23⟩ := Kd.R_slice HO103.out; subst eo23; obtain ⟨Ao24, co24, eo24⟩ := Kd.R_slice HO106.out; subst eo24) | ((with_reducible refine gate_callee (f := 8) rfl ?_); refine goesL_ (some 3) rfl rfl Try.func8 (by kernel_rfl) rfl #[.slice Ao23 y101.length co23, .slice Ao24 y104.length co24, .int .i64 1] rfl (by (try simp only [List.map_toArray, List.map_cons, List.map_nil]); first | done | rfl | (simp only [List.length_drop, List.length_take]; rfl)) ?_; (with_reducible refine (keep_Of.calls _ _ y101 _ _ y104 1 t107 _ ?side1 ?side2 ?side3 ?side4 A1.out).mono ?_); (case side1 => repeat (first | exact (Kd.R_reads' HO103.out).2.2 | (with_reducible refine Kd.C_alloc ?_ _) | (with_reducible refine Kd.C_drewN ?_ _) | (with_reducible refine Kd.C_drew ?_))); (case side2 => exact (Kd.R_reads' HO103.out).2.1); (case side3 => repeat (first | exact (Kd.R_reads' HO106.out).2.2 | (with_reducible refine Kd.C_alloc ?_ _) | (with_reducible refine Kd.C_drewN ?_ _) | (with_reducible refine Kd.C_drew ?_))); (case side4 => exact (Kd.R_reads' HO106.out).2.1); rintro e w25 ⟨v108, rfl, ho0, hb⟩; refine ⟨_, rfl, ?_⟩; have n0_ := Aside0.mk (Kd.R_elder' (by (with_reducible repeat (first | apply Kd.R_alloc | apply Kd.R_drewN | apply Kd.R_drew)); exact HO103.out) (Kd.R_base ho0) hb); have n1_ := Aside0.mk (Kd.R_elder' (by (with_reducible repeat (first | apply Kd.R_alloc | apply Kd.R_drewN | apply Kd.R_drew)); exact HO106.out) (Kd.R_base ho0) hb); have n2_ := Aside0.mk (Kd.R_lower (Kd.R_new' (Kd.R_new' ho0 (Kd.R_lt (by (with_reducible repeat (first | apply Kd.R_alloc | apply Kd.R_drewN | apply Kd.R_drew)); exact HO103.out))) (Kd.R_lt (by (with_reducible repeat (first | apply Kd.R_alloc | apply Kd.R_drewN | apply Kd.R_drew)); exact HO106.out))) (below_size (by repeat (first | (with_reducible first | exact HB.out | apply below_alloc | apply pw_below_drewN | apply below_drew1) | exact HB.out)))); have n3_ := Aside0.mk (below_step (by repeat (first | (with_reducible first | exact HB.out | apply below_alloc | apply pw_below_drewN | apply below_drew1) | exact HB.out)) hb); clear HO103; clear HO106; clear HB; have HO103 := n0_; have HO106 := n1_; have HO109 := n2_; have HB := n3_; clear n0_ n1_ n2_ n3_; (try clear hb); (try clear hb2); (try clear hk); (try clear hi); (try clear ho0)) | ((with_reducible refine gate_dst (N := 4) rfl ?_); (try (refine gate_guard (by rfl) ?_; dsimp only)); refine Kd.R_lit (Kd.int .i64) _ 3 ?hg (N := 4) ?hd (xs := ([1, 3, 5] : List Int)) (inner := [.int .i64 1, .int .i64 3, .int .i64 5]) (ok := fun _ => True) (okp := fun _ => True) ?hr ?hp (fun _ hk => hk) trivial (Below.refl _ _) (Nat.le_refl _) (by simp) ?_; (case hd => rfl); (case hg => rfl); (case hr => first | (go_simp; done) | (go_simp; rfl)); (case hp => exact (Reps.one (show Kd.M (Kd.int .i64) _ _ _ 1 [.int .i64 1] from rfl) (Reps.one (show Kd.M (Kd.int .i64) _ _ _ 3 [.int .i64 3] from rfl) (Reps.one (show Kd.M (Kd.int .i64) _ _ _ 5 [.int .i64 5] from rfl) (Reps.none _ _))))); intro v111 w26 ho27 hb hg_ hnew_; clear hg_ hnew_; (first | rw [← Ny110.out] at ho27 | (simp only [Int.reduceToNat] at ho27; rw [← Ny110.out] at ho27)); have n0_ := Aside0.mk (Kd.R_elder' (by (with_reducible repeat (first | apply Kd.R_alloc | apply Kd.R_drewN | apply Kd.R_drew)); exact HO103.out) (Kd.R_base ho27) hb); have n1_ := Aside0.mk (Kd.R_elder' (by (with_reducible repeat (first | apply Kd.R_alloc | apply Kd.R_drewN | apply Kd.R_drew)); exact HO106.out) (Kd.R_base ho27) hb); have n2_ := Aside0.mk (Kd.R_elder' (by (with_reducible repeat (first | apply Kd.R_alloc | apply Kd.R_drewN | apply Kd.R_drew)); exact HO109.out) (Kd.R_base ho27) hb); have n3_ := Aside0.mk (Kd.R_lower (Kd.R_new' (Kd.R_new' (Kd.R_new' ho27 (Kd.R_lt (by (with_reducible repeat (first | apply Kd.R_alloc | apply Kd.R_drewN | apply Kd.R_drew)); exact HO103.out))) (Kd.R_lt (by (with_reducible repeat (first | apply Kd.R_alloc | apply Kd.R_drewN | apply Kd.R_drew)); exact HO106.out))) (Kd.R_lt (by (with_reducible repeat (first | apply Kd.R_alloc | apply Kd.R_drewN | apply Kd.R_drew)); exact HO109.out))) (below_size (by repeat (first | (with_reducible first | exact HB.out | apply below_alloc | apply pw_below_drewN | apply below_drew1) | exact HB.out)))); have n4_ := Aside0.mk (below_step (by repeat (first | (with_reducible first | exact HB.out | apply below_alloc | apply pw_below_drewN | apply below_drew1) | exact HB.out)) hb); clear HO103; clear HO106; clear HO109; clear HB; have HO103 := n0_; have HO106 := n1_; have HO109 := n2_; have HO112 := n3_; have HB := n4_; clear n0_ n1_ n2_ n3_ n4_; clear hb ho27; obtain ⟨Ao28, co28, eo28⟩ := Kd.R_slice HO109.out; subst eo28; obtain ⟨Ao29, co29, eo29⟩ := Kd.R_slice HO112.out; subst eo29) | ((with_reducible refine gate_callee (f := 11) rfl ?_); refine goesL_ (some 5) rfl rfl Try.func11 (by kernel_rfl) rfl #[.slice Ao28 t107.length co28, .slice Ao29 y110.length co29] rfl (by (try simp only [List.map_toArray, List.map_cons, List.map_nil]); first | done | rfl | (simp only [List.length_drop, List.length_take]; rfl)) ?_; (with_reducible refine (epitomeref15_SameRow.calls k _ _ t107 _ _ y110 false _ ?side1 ?side2 ?side3 ?side4 A2.out).mono ?_); (case side1 => repeat (first | exact (Kd.R_reads' HO109.out).2.2 | (with_reducible refine Kd.C_alloc ?_ _) | (with_reducible refine Kd.C_drewN ?_ _) | (with_reducible refine Kd.C_drew ?_))); (case side2 => exact (Kd.R_reads' HO109.out).2.1); (case side3 => repeat (first | exact (Kd.R_reads' HO112.out).2.2 | (with_reducible refine Kd.C_alloc ?_ _) | (with_reducible refine Kd.C_drewN ?_ _) | (with_reducible refine Kd.C_drew ?_))); (case side4 => exact (Kd.R_reads' HO112.out).2.1); rintro e w' ⟨rfl, ⟨nd, rfl⟩⟩; refine ⟨_, rfl, ?_⟩))
    go_ret
    exact ⟨by first | rfl | (simp [errW_none, errW_some] <;> rfl) | (simp [*, errW_none, errW_some] <;> rfl), by repeat (first | (with_reducible first | exact HB.out | apply below_alloc | apply pw_below_drewN | apply below_drew1) | exact HB.out)⟩
end Go.Proofs.Ytilbackjamjonaa.F
end
section
namespace Go.Proofs.Ytilbackjamjonaa.F
open Go.RowKit Go.Proofs.YtilbackjamjonaaW.PrintWords Go.Proofs.YtilbackjamjonaaW.PrintLast Go.Proofs.YtilbackjamjonaaW.PrintMore
attribute [local go_sem] max2_int min2_int max_two min_two max_three min_three max_four min_four cell_setCell_isSome
set_option linter.unusedVariables false
set_option linter.unusedSimpArgs false
def epitomeref18_Fit.l0 : Nat → List Int → List Int → Int → Int → Option (List Int)
  | 0, _, _, _, _ => none
  | k + 1, x0, x3, x4, x5 => if x5 < (x0.length : Int) then (if x5 < 30 then (if 0 ≤ x5 then (if x3.length < 17592186044416 then (epitomeref18_Fit.l0 k x0 (x3 ++ [wrap64 ((wrap64 (x4 + 1)) + (Int.tmod (wrap64 ((Int.tmod (rd x0 x5) 4) + 4)) 4))]) (wrap64 ((wrap64 (x4 + 1)) + (Int.tmod (wrap64 ((Int.tmod (rd x0 x5) 4) + 4)) 4))) (wrap64 (x5 + 1))) else (none)) else (none)) else (if (x3.length : Int) = 0 then (some (([0] : List Int))) else (some x3))) else (if (x3.length : Int) = 0 then (some (([0] : List Int))) else (some x3))
def epitomeref18_Fit.f (k : Nat) (l0 : List Int) : Option (List Int) := epitomeref18_Fit.l0 k l0 (([] : List Int)) (-1) 0
theorem epitomeref18_Fit.mono_l : ∀ k, (∀ y0 y1 y2 y3, LeO (epitomeref18_Fit.l0 k y0 y1 y2 y3) (epitomeref18_Fit.l0 (k + 1) y0 y1 y2 y3))
  | 0 => fun _ _ _ _ r h => by simp [epitomeref18_Fit.l0] at h
  | k + 1 => by
    have ih0 := epitomeref18_Fit.mono_l k
    · intro y0 y1 y2 y3
      unfold epitomeref18_Fit.l0
      repeat' first
      | (with_reducible exact ih0 _ _ _ _)
      | (with_reducible exact LeO.refl _)
      | (with_reducible exact LeO.none _)
      | (with_reducible refine LeO.ite ?_ ?_)
      | (with_reducible refine LeO.bind ?_ (fun _ => ?_))
      | exact ih0 _ _ _ _
      | exact LeO.none _
      | refine LeO.ite ?_ ?_
      | refine LeO.bind ?_ (fun _ => ?_)
theorem epitomeref18_Fit.mono : ∀ a0 k, LeO (epitomeref18_Fit.f k a0) (epitomeref18_Fit.f (k + 1) a0) := by
  intro a0 k
  have ih0 := epitomeref18_Fit.mono_l k
  unfold epitomeref18_Fit.f
  repeat' first
      | (with_reducible exact ih0 _ _ _ _)
      | (with_reducible exact LeO.refl _)
      | (with_reducible exact LeO.none _)
      | (with_reducible refine LeO.ite ?_ ?_)
      | (with_reducible refine LeO.bind ?_ (fun _ => ?_))
      | exact ih0 _ _ _ _
      | exact LeO.none _
      | refine LeO.ite ?_ ?_
      | refine LeO.bind ?_ (fun _ => ?_)
set_option maxHeartbeats 8000000 in
set_option maxRecDepth 100000 in
theorem epitomeref18_Fit.calls (k : Nat) (A0 : Option Addr) (c0 : Nat) (l0 : List Int) (r : List Int) (w : World) (hr0 : Kd.C (Kd.int .i64) w A0 l0.length l0) (hc0 : l0.length ≤ c0) (h : epitomeref18_Fit.f k l0 = some r) :
    Calls Try.prog 6 #[.slice A0 l0.length c0] w fun e w' => ∃ v0_ : Value, e = .returned (v0_) ∧ Kd.R (Kd.int .i64) 3 w' w.heap.size (fun _ => True) v0_ r ∧ Below w.heap.size w w' := by
  have HR0 := Aside0.mk hr0
  have HC0 := Aside0.mk hc0
  clear hr0 hc0
  have HB := Aside0.mk (Below.refl w.heap.size w)
  have H : (epitomeref18_Fit.l0 k l0 (([] : List Int)) (-1) 0) = some r := h
  clear h
  obtain ⟨y101, hy101⟩ : ∃ y_ : List Int, y_ = (([] : List Int)) := ⟨_, rfl⟩
  replace H : (epitomeref18_Fit.l0 k l0 y101 (-1) 0) = some r := by first | (rw [hy101]; with_reducible exact H) | (have H2_ := (Option.bind_some _ _).symm.trans H; rw [hy101]; with_reducible exact H2_) | (have H2_ := (Option.bind_some _ _).symm.trans H; with_reducible exact H2_) | with_reducible exact H | (rw [hy101]; exact H) | exact H
  have Ny101 := Aside0.mk hy101
  clear hy101
  have H' := Aside0.mk H
  clear H
  go_enter Try.func6, Try.ntmps6
  go_wp2_with (first | ((with_reducible refine gate_dst (N := 6) rfl ?_); refine Kd.R_lit (Kd.int .i64) _ 3 ?hg (N := 6) ?hd (xs := ([] : List Int)) (inner := []) (ok := fun _ => True) (okp := fun _ => True) ?hr ?hp (fun _ hk => hk) trivial (Below.refl _ _) (Nat.le_refl _) (by simp) ?_; (case hd => rfl); (case hg => rfl); (case hr => first | (go_simp; done) | (go_simp; rfl)); (case hp => exact (Reps.none _ _)); intro v102 w2 ho3 hb hg_ hnew_; clear hg_ hnew_; (first | rw [← Ny101.out] at ho3 | (simp only [Int.reduceToNat] at ho3; rw [← Ny101.out] at ho3)); have n0_ := Aside0.mk (Kd.R_lower ho3 (below_size (by repeat (first | (with_reducible first | exact HB.out | apply below_alloc | apply pw_below_drewN | apply below_drew1) | exact HB.out)))); have n1_ := Aside0.mk (below_step (by repeat (first | (with_reducible first | exact HB.out | apply below_alloc | apply pw_below_drewN | apply below_drew1) | exact HB.out)) hb); clear HB; have HO103 := n0_; have HB := n1_; clear n0_ n1_; clear hb ho3))
  go_loopg [3, 4, 5] k (fun kq v3 v4 v5 w' => ∃ (x3_1 : List Int) (x4_1 : Int) (x5_1 : Int), v4 = .int .i64 x4_1 ∧ v5 = .int .i64 x5_1 ∧ Aside0 (epitomeref18_Fit.l0 kq l0 x3_1 x4_1 x5_1 = some r) ∧ Aside0 (kq ≤ k) ∧ Aside0 (Kd.R (Kd.int .i64) 3 w' w.heap.size (fun _ => True) v3 x3_1) ∧ Aside0 (Below w.heap.size w w'))
  case atStart => exact ⟨(y101), ((-1)), (0), (by first | rfl | (simp; done) | (simp [*]; done)), (by first | rfl | (simp; done) | (simp [*]; done)), H', ⟨Nat.le_refl _⟩, ⟨by (with_reducible repeat (first | apply Kd.R_alloc | apply Kd.R_drewN | apply Kd.R_drew)); exact HO103.out⟩, ⟨by repeat (first | (with_reducible first | exact HB.out | apply below_alloc | apply pw_below_drewN | apply below_drew1) | exact HB.out)⟩⟩
  case round =>
    clear H'
    try clear p2
    obtain ⟨x3_1, x4_1, x5_1, rfl, rfl, HA, HK1, HO_3, HB⟩ := hrel
    cases gk with
    | zero => exact absurd HA.out (by simp [epitomeref18_Fit.l0])
    | succ k1 =>
      have H := HA.out
      clear HA
      simp only [epitomeref18_Fit.l0] at H
      by_cases c4 : x5_1 < (l0.length : Int)
      · rw [if_pos c4] at H
        have c4b0 : decide (x5_1 < (l0.length : Int)) = true := decide_eq_true c4
        clear c4
        by_cases c5 : x5_1 < 30
        · rw [if_pos c5] at H
          have c5b0 : decide (x5_1 < 30) = true := decide_eq_true c5
          clear c5
          by_cases c6 : 0 ≤ x5_1
          · rw [if_pos c6] at H
            have c6b0 : decide (0 ≤ x5_1) = true := decide_eq_true c6
            clear c6
            by_cases c7 : x3_1.length < 17592186044416
            · rw [if_pos c7] at H
              have LMc7 := Aside0.mk c7
              clear c7
              obtain ⟨y105, hy105⟩ : ∃ y_ : List Int, y_ = (x3_1 ++ [wrap64 ((wrap64 (x4_1 + 1)) + (Int.tmod (wrap64 ((Int.tmod (rd l0 x5_1) 4) + 4)) 4))]) := ⟨_, rfl⟩
              replace H : (epitomeref18_Fit.l0 k1 l0 y105 (wrap64 ((wrap64 (x4_1 + 1)) + (Int.tmod (wrap64 ((Int.tmod (rd l0 x5_1) 4) + 4)) 4))) (wrap64 (x5_1 + 1))) = some r := by first | (rw [hy105]; with_reducible exact H) | (have H2_ := (Option.bind_some _ _).symm.trans H; rw [hy105]; with_reducible exact H2_) | (have H2_ := (Option.bind_some _ _).symm.trans H; with_reducible exact H2_) | with_reducible exact H | (rw [hy105]; exact H) | exact H
              have Ny105 := Aside0.mk hy105
              clear hy105
              have H' := Aside0.mk H
              clear H
              have p104 : 0 ≤ (x5_1 : Int) := of_decide_eq_true (by first | (with_reducible assumption) | assumption)
              have q104 : x5_1 < (l0.length : Int) := of_decide_eq_true (by first | (with_reducible assumption) | assumption)
              obtain ⟨ad104, e104, hx104_0⟩ := Kd.at_int HR0.out x5_1 p104 q104
              cases e104
              replace hx104_0 := (HB.out.cell (World.block_lt_of_cell? w _ hx104_0)).trans hx104_0
              replace p104 := eq_true p104
              replace q104 := eq_true q104
              go_wp2_with (first | ((with_reducible refine gate_builtin (b := .append) (xs := #[.tmp 27, .tmp 29]) rfl ?_); at_builtin; refine Kd.R_append (Kd.int .i64) (w0 := w) w.heap.size rfl (.tmp 27) (.tmp 29) 22 3 (.int .i64 0) 8 rfl Try.underlying22 info3 rfl (by decide) (by omega) u3 x3_1 (wrap64 ((wrap64 (x4_1 + 1)) + (Int.tmod (wrap64 ((Int.tmod (rd l0 x5_1) 4) + 4)) 4))) [.int .i64 (wrap64 ((wrap64 (x4_1 + 1)) + (Int.tmod (wrap64 ((Int.tmod (rd l0 x5_1) 4) + 4)) 4)))] (fun _ => True) (fun _ => False) rfl rfl ?aP (fun _ hk => hk.elim) ?aF ?aO ?aB ?aS ?aL ?_; (case aP => exact rfl); (case aB => exact (by repeat (first | (with_reducible first | exact HB.out | apply below_alloc | apply pw_below_drewN | apply below_drew1) | exact HB.out))); (case aF => exact (fun _ _ => trivial)); (case aO => exact (by (with_reducible repeat (first | apply Kd.R_alloc | apply Kd.R_drewN | apply Kd.R_drew)); exact HO_3.out)); (case aS => exact (below_size (by repeat (first | (with_reducible first | exact HB.out | apply below_alloc | apply pw_below_drewN | apply below_drew1) | exact HB.out)))); (case aL => have := LMc7.out; omega); intro v106 w8 ho hb hg hat; rw [← Ny105.out] at ho; have n0_ := Aside0.mk (hb); have n1_ := Aside0.mk (ho); clear HB; clear HO_3; have HB := n0_; have HO107 := n1_; clear n0_ n1_; clear ho hb hg hat))
              go_roundg k1
              case measure => have := HK1.out; omega
              case rel => exact ⟨(y105), (wrap64 ((wrap64 (x4_1 + 1)) + (Int.tmod (wrap64 ((Int.tmod (rd l0 x5_1) 4) + 4)) 4))), (wrap64 (x5_1 + 1)), (by first | rfl | (simp; done) | (simp [*]; done)), (by first | rfl | (simp; done) | (simp [*]; done)), H', ⟨by have := HK1.out; omega⟩, ⟨by (with_reducible repeat (first | apply Kd.R_alloc | apply Kd.R_drewN | apply Kd.R_drew)); exact HO107.out⟩, ⟨by repeat (first | (with_reducible first | exact HB.out | apply below_alloc | apply pw_below_drewN | apply below_drew1) | exact HB.out)⟩⟩
            · rw [if_neg c7] at H
              exact absurd H (by simp)
          · rw [if_neg c6] at H
            exact absurd H (by simp)
        · rw [if_neg c5] at H
          have c5b0 : decide (x5_1 < 30) = false := decide_eq_false c5
          clear c5
          by_cases c9 : (x3_1.length : Int) = 0
          · rw [if_pos c9] at H
            have c9b0 : ((x3_1.length : Int) == 0) = true := beq_iff_eq.mpr c9
            have c9b1 : ((x3_1.length : Int) != 0) = false := bne_eq_false_iff_eq.mpr c9
            clear c9
            obtain ⟨y108, hy108⟩ : ∃ y_ : List Int, y_ = (([0] : List Int)) := ⟨_, rfl⟩
            replace H : (some y108) = some r := by first | (rw [hy108]; with_reducible exact H) | (have H2_ := (Option.bind_some _ _).symm.trans H; rw [hy108]; with_reducible exact H2_) | (have H2_ := (Option.bind_some _ _).symm.trans H; with_reducible exact H2_) | with_reducible exact H | (rw [hy108]; exact H) | exact H
            have Ny108 := Aside0.mk hy108
            clear hy108
            obtain rfl := Option.some.inj H
            obtain ⟨Ao10, co10, eo10⟩ := Kd.R_slice HO_3.out
            subst eo10
            go_wp2_with (first | ((with_reducible refine gate_dst (N := 34) rfl ?_); refine Kd.R_lit (Kd.int .i64) _ 3 ?hg (N := 34) ?hd (xs := ([0] : List Int)) (inner := [.int .i64 0]) (ok := fun _ => True) (okp := fun _ => True) ?hr ?hp (fun _ hk => hk) trivial (Below.refl _ _) (Nat.le_refl _) (by simp) ?_; (case hd => rfl); (case hg => rfl); (case hr => first | (go_simp; done) | (go_simp; rfl)); (case hp => exact (Reps.one (show Kd.M (Kd.int .i64) _ _ _ 0 [.int .i64 0] from rfl) (Reps.none _ _))); intro v109 w11 ho12 hb hg_ hnew_; clear hg_ hnew_; (first | rw [← Ny108.out] at ho12 | (simp only [Int.reduceToNat] at ho12; rw [← Ny108.out] at ho12)); have n0_ := Aside0.mk (Kd.R_elder' (by (with_reducible repeat (first | apply Kd.R_alloc | apply Kd.R_drewN | apply Kd.R_drew)); exact HO_3.out) (Kd.R_base ho12) hb); have n1_ := Aside0.mk (Kd.R_lower (Kd.R_new' ho12 (Kd.R_lt (by (with_reducible repeat (first | apply Kd.R_alloc | apply Kd.R_drewN | apply Kd.R_drew)); exact HO_3.out))) (below_size (by repeat (first | (with_reducible first | exact HB.out | apply below_alloc | apply pw_below_drewN | apply below_drew1) | exact HB.out)))); have n2_ := Aside0.mk (below_step (by repeat (first | (with_reducible first | exact HB.out | apply below_alloc | apply pw_below_drewN | apply below_drew1) | exact HB.out)) hb); clear HO_3; clear HB; have HO_3 := n0_; have HO110 := n1_; have HB := n2_; clear n0_ n1_ n2_; clear hb ho12))
            go_ret
            exact ⟨_, by first | rfl | (simp [errW_none, errW_some] <;> rfl) | (simp [*, errW_none, errW_some] <;> rfl), by (with_reducible repeat (first | apply Kd.R_alloc | apply Kd.R_drewN | apply Kd.R_drew)); exact Kd.R_mono HO110.out (fun _ hk => trivial), by repeat (first | (with_reducible first | exact HB.out | apply below_alloc | apply pw_below_drewN | apply below_drew1) | exact HB.out)⟩
          · rw [if_neg c9] at H
            have c9b0 : ((x3_1.length : Int) == 0) = false := beq_eq_false_iff_ne.mpr c9
            have c9b1 : ((x3_1.length : Int) != 0) = true := bne_iff_ne.mpr c9
            have c9b2 : ¬ (x3_1 = []) := fun h_ => c9 (by rw [h_]; rfl)
            obtain rfl := Option.some.inj H
            obtain ⟨Ao13, co13, eo13⟩ := Kd.R_slice HO_3.out
            subst eo13
            go_wp2
            go_ret
            exact ⟨_, by first | rfl | (simp [errW_none, errW_some] <;> rfl) | (simp [*, errW_none, errW_some] <;> rfl), by (with_reducible repeat (first | apply Kd.R_alloc | apply Kd.R_drewN | apply Kd.R_drew)); exact HO_3.out, by repeat (first | (with_reducible first | exact HB.out | apply below_alloc | apply pw_below_drewN | apply below_drew1) | exact HB.out)⟩
      · rw [if_neg c4] at H
        have c4b0 : decide (x5_1 < (l0.length : Int)) = false := decide_eq_false c4
        clear c4
        by_cases c14 : (x3_1.length : Int) = 0
        · rw [if_pos c14] at H
          have c14b0 : ((x3_1.length : Int) == 0) = true := beq_iff_eq.mpr c14
          have c14b1 : ((x3_1.length : Int) != 0) = false := bne_eq_false_iff_eq.mpr c14
          clear c14
          obtain ⟨y111, hy111⟩ : ∃ y_ : List Int, y_ = (([0] : List Int)) := ⟨_, rfl⟩
          replace H : (some y111) = some r := by first | (rw [hy111]; with_reducible exact H) | (have H2_ := (Option.bind_some _ _).symm.trans H; rw [hy111]; with_reducible exact H2_) | (have H2_ := (Option.bind_some _ _).symm.trans H; with_reducible exact H2_) | with_reducible exact H | (rw [hy111]; exact H) | exact H
          have Ny111 := Aside0.mk hy111
          clear hy111
          obtain rfl := Option.some.inj H
          obtain ⟨Ao15, co15, eo15⟩ := Kd.R_slice HO_3.out
          subst eo15
          go_wp2_with (first | ((with_reducible refine gate_dst (N := 34) rfl ?_); refine Kd.R_lit (Kd.int .i64) _ 3 ?hg (N := 34) ?hd (xs := ([0] : List Int)) (inner := [.int .i64 0]) (ok := fun _ => True) (okp := fun _ => True) ?hr ?hp (fun _ hk => hk) trivial (Below.refl _ _) (Nat.le_refl _) (by simp) ?_; (case hd => rfl); (case hg => rfl); (case hr => first | (go_simp; done) | (go_simp; rfl)); (case hp => exact (Reps.one (show Kd.M (Kd.int .i64) _ _ _ 0 [.int .i64 0] from rfl) (Reps.none _ _))); intro v112 w16 ho17 hb hg_ hnew_; clear hg_ hnew_; (first | rw [← Ny111.out] at ho17 | (simp only [Int.reduceToNat] at ho17; rw [← Ny111.out] at ho17)); have n0_ := Aside0.mk (Kd.R_elder' (by (with_reducible repeat (first | apply Kd.R_alloc | apply Kd.R_drewN | apply Kd.R_drew)); exact HO_3.out) (Kd.R_base ho17) hb); have n1_ := Aside0.mk (Kd.R_lower (Kd.R_new' ho17 (Kd.R_lt (by (with_reducible repeat (first | apply Kd.R_alloc | apply Kd.R_drewN | apply Kd.R_drew)); exact HO_3.out))) (below_size (by repeat (first | (with_reducible first | exact HB.out | apply below_alloc | apply pw_below_drewN | apply below_drew1) | exact HB.out)))); have n2_ := Aside0.mk (below_step (by repeat (first | (with_reducible first | exact HB.out | apply below_alloc | apply pw_below_drewN | apply below_drew1) | exact HB.out)) hb); clear HO_3; clear HB; have HO_3 := n0_; have HO113 := n1_; have HB := n2_; clear n0_ n1_ n2_; clear hb ho17))
          go_ret
          exact ⟨_, by first | rfl | (simp [errW_none, errW_some] <;> rfl) | (simp [*, errW_none, errW_some] <;> rfl), by (with_reducible repeat (first | apply Kd.R_alloc | apply Kd.R_drewN | apply Kd.R_drew)); exact Kd.R_mono HO113.out (fun _ hk => trivial), by repeat (first | (with_reducible first | exact HB.out | apply below_alloc | apply pw_below_drewN | apply below_drew1) | exact HB.out)⟩
        · rw [if_neg c14] at H
          have c14b0 : ((x3_1.length : Int) == 0) = false := beq_eq_false_iff_ne.mpr c14
          have c14b1 : ((x3_1.length : Int) != 0) = true := bne_iff_ne.mpr c14
          have c14b2 : ¬ (x3_1 = []) := fun h_ => c14 (by rw [h_]; rfl)
          obtain rfl := Option.some.inj H
          obtain ⟨Ao18, co18, eo18⟩ := Kd.R_slice HO_3.out
          subst eo18
          go_wp2
          go_ret
          exact ⟨_, by first | rfl | (simp [errW_none, errW_some] <;> rfl) | (simp [*, errW_none, errW_some] <;> rfl), by (with_reducible repeat (first | apply Kd.R_alloc | apply Kd.R_drewN | apply Kd.R_drew)); exact HO_3.out, by repeat (first | (with_reducible first | exact HB.out | apply below_alloc | apply pw_below_drewN | apply below_drew1) | exact HB.out)⟩
end Go.Proofs.Ytilbackjamjonaa.F
end
section
namespace Go.Proofs.Ytilbackjamjonaa.F
open Go.RowKit Go.Proofs.YtilbackjamjonaaW.PrintWords Go.Proofs.YtilbackjamjonaaW.PrintLast Go.Proofs.YtilbackjamjonaaW.PrintMore
attribute [local go_sem] max2_int min2_int max_two min_two max_three min_three max_four min_four cell_setCell_isSome
set_option linter.unusedVariables false
set_option linter.unusedSimpArgs false
mutual
def epitomelaw18_KeepBounds.j0 : Nat → List Int → List Int → List Int → Int → Bool → Option (Bool)
  | 0, _, _, _, _, _ => none
  | k + 1, x8, x9, x10, x11, x95 => if x95 = true then (some false) else (epitomelaw18_KeepBounds.l0 k x8 x9 x10 x11 1)
def epitomelaw18_KeepBounds.l0 : Nat → List Int → List Int → List Int → Int → Int → Option (Bool)
  | 0, _, _, _, _, _ => none
  | k + 1, x8, x9, x10, x11, x12 => if x12 < (x10.length : Int) then (if 0 ≤ (wrap64 (x12 - 1)) then (if (wrap64 (x12 - 1)) < (x10.length : Int) then (if 0 ≤ x12 then (if (rd x10 (wrap64 (x12 - 1))) ≥ (rd x10 x12) then (some false) else (if x12 < (wrap64 ((x10.length : Int) - 1)) then ((epitomelaw18_in.f k x9 (rd x10 x12)).bind fun t122 => (if t122 = true then (epitomelaw18_KeepBounds.l0 k x8 x9 x10 x11 (wrap64 (x12 + 1))) else (some false))) else (epitomelaw18_KeepBounds.l0 k x8 x9 x10 x11 (wrap64 (x12 + 1))))) else (none)) else (none)) else (none)) else (epitomelaw18_KeepBounds.l1 k x8 x9 x10 x11 0)
def epitomelaw18_KeepBounds.l1 : Nat → List Int → List Int → List Int → Int → Int → Option (Bool)
  | 0, _, _, _, _, _ => none
  | k + 1, x8, x9, x10, x11, x13 => if x13 < (x8.length : Int) then (if 0 ≤ x13 then ((epitomelaw18_in.f k x10 (rd x8 x13)).bind fun t124 => (if x13 = x11 then (if (t124 != true) = true then (some false) else (epitomelaw18_KeepBounds.l1 k x8 x9 x10 x11 (wrap64 (x13 + 1)))) else (if x13 = (wrap64 ((x8.length : Int) - 1)) then (if (t124 != true) = true then (some false) else (epitomelaw18_KeepBounds.l1 k x8 x9 x10 x11 (wrap64 (x13 + 1)))) else (if x13 > x11 then ((epitomelaw18_in.f k x9 (rd x8 x13)).bind fun t126 => (if (t124 != t126) = true then (some false) else (epitomelaw18_KeepBounds.l1 k x8 x9 x10 x11 (wrap64 (x13 + 1))))) else (if (t124 != false) = true then (some false) else (epitomelaw18_KeepBounds.l1 k x8 x9 x10 x11 (wrap64 (x13 + 1)))))))) else (none)) else (some true)
end
def epitomelaw18_KeepBounds.f (k : Nat) (l0 : List Int) (l1 : List Int) (a2 : Int) : Option (Bool) := (epitomelaw18_shown.f k).bind fun t101 => ((epitomeref18_Fit.f k l0).bind fun t102 => ((epitomelaw18_few.f l1).bind fun t105 => ((keep_Of.f t102 t105 a2).bind fun t108 => ((keep_Floor.f k t102 a2).bind fun t111 => (if t101 = true then (if (t108.length : Int) = 0 then (epitomelaw18_KeepBounds.j0 k t102 t105 t108 t111 true) else (if t111 < 0 then (epitomelaw18_KeepBounds.j0 k t102 t105 t108 t111 true) else (if t111 ≥ (t102.length : Int) then (epitomelaw18_KeepBounds.j0 k t102 t105 t108 t111 true) else (if 0 < (t108.length : Int) then (if 0 ≤ t111 then (if t111 < (t102.length : Int) then (if (rd t108 0) = (rd t102 t111) then (if 0 ≤ (wrap64 ((t108.length : Int) - 1)) then (if (wrap64 ((t108.length : Int) - 1)) < (t108.length : Int) then (if 0 ≤ (wrap64 ((t102.length : Int) - 1)) then (if (wrap64 ((t102.length : Int) - 1)) < (t102.length : Int) then (if (rd t108 (wrap64 ((t108.length : Int) - 1))) = (rd t102 (wrap64 ((t102.length : Int) - 1))) then (if t111 > 0 then (if (rd t102 t111) > a2 then (epitomelaw18_KeepBounds.j0 k t102 t105 t108 t111 true) else (if (wrap64 (t111 + 1)) < (t102.length : Int) then (if 0 ≤ (wrap64 (t111 + 1)) then (epitomelaw18_KeepBounds.j0 k t102 t105 t108 t111 (decide ((rd t102 (wrap64 (t111 + 1))) ≤ a2))) else (none)) else (epitomelaw18_KeepBounds.j0 k t102 t105 t108 t111 false))) else (if (wrap64 (t111 + 1)) < (t102.length : Int) then (if 0 ≤ (wrap64 (t111 + 1)) then (epitomelaw18_KeepBounds.j0 k t102 t105 t108 t111 (decide ((rd t102 (wrap64 (t111 + 1))) ≤ a2))) else (none)) else (epitomelaw18_KeepBounds.j0 k t102 t105 t108 t111 false))) else (epitomelaw18_KeepBounds.j0 k t102 t105 t108 t111 true)) else (none)) else (none)) else (none)) else (none)) else (epitomelaw18_KeepBounds.j0 k t102 t105 t108 t111 true)) else (none)) else (none)) else (none))))) else (epitomelaw18_KeepBounds.j0 k t102 t105 t108 t111 true))))))
theorem epitomelaw18_KeepBounds.mono_l : ∀ k, (∀ y0 y1 y2 y3 y4, LeO (epitomelaw18_KeepBounds.j0 k y0 y1 y2 y3 y4) (epitomelaw18_KeepBounds.j0 (k + 1) y0 y1 y2 y3 y4)) ∧ (∀ y0 y1 y2 y3 y4, LeO (epitomelaw18_KeepBounds.l0 k y0 y1 y2 y3 y4) (epitomelaw18_KeepBounds.l0 (k + 1) y0 y1 y2 y3 y4)) ∧ (∀ y0 y1 y2 y3 y4, LeO (epitomelaw18_KeepBounds.l1 k y0 y1 y2 y3 y4) (epitomelaw18_KeepBounds.l1 (k + 1) y0 y1 y2 y3 y4))
  | 0 => ⟨fun _ _ _ _ _ r h => by simp [epitomelaw18_KeepBounds.j0] at h, fun _ _ _ _ _ r h => by simp [epitomelaw18_KeepBounds.l0] at h, fun _ _ _ _ _ r h => by simp [epitomelaw18_KeepBounds.l1] at h⟩
  | k + 1 => by
    obtain ⟨ih0, ih1, ih2⟩ := epitomelaw18_KeepBounds.mono_l k
    refine ⟨?_, ?_, ?_⟩
    · intro y0 y1 y2 y3 y4
      unfold epitomelaw18_KeepBounds.j0
      repeat' first
      | (with_reducible exact ih0 _ _ _ _ _)
      | (with_reducible exact ih1 _ _ _ _ _)
      | (with_reducible exact ih2 _ _ _ _ _)
      | (with_reducible exact epitomelaw18_in.mono _ _ _)
      | (with_reducible exact epitomelaw18_shown.mono _)
      | (with_reducible exact epitomeref18_Fit.mono _ _)
      | (with_reducible exact keep_Floor.mono _ _ _)
      | (with_reducible exact LeO.refl _)
      | (with_reducible exact LeO.none _)
      | (with_reducible refine LeO.ite ?_ ?_)
      | (with_reducible refine LeO.bind ?_ (fun _ => ?_))
      | exact ih0 _ _ _ _ _
      | exact ih1 _ _ _ _ _
      | exact ih2 _ _ _ _ _
      | exact epitomelaw18_in.mono _ _ _
      | exact epitomelaw18_shown.mono _
      | exact epitomeref18_Fit.mono _ _
      | exact keep_Floor.mono _ _ _
      | exact LeO.none _
      | refine LeO.ite ?_ ?_
      | refine LeO.bind ?_ (fun _ => ?_)
    · intro y0 y1 y2 y3 y4
      unfold epitomelaw18_KeepBounds.l0
      repeat' first
      | (with_reducible exact ih0 _ _ _ _ _)
      | (with_reducible exact ih1 _ _ _ _ _)
      | (with_reducible exact ih2 _ _ _ _ _)
      | (with_reducible exact epitomelaw18_in.mono _ _ _)
      | (with_reducible exact epitomelaw18_shown.mono _)
      | (with_reducible exact epitomeref18_Fit.mono _ _)
      | (with_reducible exact keep_Floor.mono _ _ _)
      | (with_reducible exact LeO.refl _)
      | (with_reducible exact LeO.none _)
      | (with_reducible refine LeO.ite ?_ ?_)
      | (with_reducible refine LeO.bind ?_ (fun _ => ?_))
      | exact ih0 _ _ _ _ _
      | exact ih1 _ _ _ _ _
      | exact ih2 _ _ _ _ _
      | exact epitomelaw18_in.mono _ _ _
      | exact epitomelaw18_shown.mono _
      | exact epitomeref18_Fit.mono _ _
      | exact keep_Floor.mono _ _ _
      | exact LeO.none _
      | refine LeO.ite ?_ ?_
      | refine LeO.bind ?_ (fun _ => ?_)
    · intro y0 y1 y2 y3 y4
      unfold epitomelaw18_KeepBounds.l1
      repeat' first
      | (with_reducible exact ih0 _ _ _ _ _)
      | (with_reducible exact ih1 _ _ _ _ _)
      | (with_reducible exact ih2 _ _ _ _ _)
      | (with_reducible exact epitomelaw18_in.mono _ _ _)
      | (with_reducible exact epitomelaw18_shown.mono _)
      | (with_reducible exact epitomeref18_Fit.mono _ _)
      | (with_reducible exact keep_Floor.mono _ _ _)
      | (with_reducible exact LeO.refl _)
      | (with_reducible exact LeO.none _)
      | (with_reducible refine LeO.ite ?_ ?_)
      | (with_reducible refine LeO.bind ?_ (fun _ => ?_))
      | exact ih0 _ _ _ _ _
      | exact ih1 _ _ _ _ _
      | exact ih2 _ _ _ _ _
      | exact epitomelaw18_in.mono _ _ _
      | exact epitomelaw18_shown.mono _
      | exact epitomeref18_Fit.mono _ _
      | exact keep_Floor.mono _ _ _
      | exact LeO.none _
      | refine LeO.ite ?_ ?_
      | refine LeO.bind ?_ (fun _ => ?_)
theorem jno_ : ∀ k x0 x1 x2 x3, epitomelaw18_KeepBounds.j0 k x0 x1 x2 x3 true ≠ some true
  | 0 => fun x0 x1 x2 x3 h => by simp [epitomelaw18_KeepBounds.j0] at h
  | k + 1 => fun x0 x1 x2 x3 h => by simp [epitomelaw18_KeepBounds.j0] at h
set_option maxHeartbeats 8000000 in
set_option maxRecDepth 100000 in
theorem epitomelaw18_KeepBounds.calls (k : Nat) (A0 : Option Addr) (c0 : Nat) (l0 : List Int) (A1 : Option Addr) (c1 : Nat) (l1 : List Int) (a2 : Int) (r : Bool) (hr_ : Aside0 (r = true)) (w : World) (hr0 : Kd.C (Kd.int .i64) w A0 l0.length l0) (hc0 : l0.length ≤ c0) (hr1 : Kd.C (Kd.int .i64) w A1 l1.length l1) (hc1 : l1.length ≤ c1) (h : epitomelaw18_KeepBounds.f k l0 l1 a2 = some r) :
    Calls Try.prog 3 #[.slice A0 l0.length c0, .slice A1 l1.length c1, .int .i64 a2] w fun e w' => e = .returned (.bool r) ∧ Below w.heap.size w w' := by
  have HR0 := Aside0.mk hr0
  have HC0 := Aside0.mk hc0
  clear hr0 hc0
  have HR1 := Aside0.mk hr1
  have HC1 := Aside0.mk hc1
  clear hr1 hc1
  have HB := Aside0.mk (Below.refl w.heap.size w)
  have H : ((epitomelaw18_shown.f k).bind fun t101 => ((epitomeref18_Fit.f k l0).bind fun t102 => ((epitomelaw18_few.f l1).bind fun t105 => ((keep_Of.f t102 t105 a2).bind fun t108 => ((keep_Floor.f k t102 a2).bind fun t111 => (if t101 = true then (if (t108.length : Int) = 0 then (epitomelaw18_KeepBounds.j0 k t102 t105 t108 t111 true) else (if t111 < 0 then (epitomelaw18_KeepBounds.j0 k t102 t105 t108 t111 true) else (if t111 ≥ (t102.length : Int) then (epitomelaw18_KeepBounds.j0 k t102 t105 t108 t111 true) else (if 0 < (t108.length : Int) then (if 0 ≤ t111 then (if t111 < (t102.length : Int) then (if (rd t108 0) = (rd t102 t111) then (if 0 ≤ (wrap64 ((t108.length : Int) - 1)) then (if (wrap64 ((t108.length : Int) - 1)) < (t108.length : Int) then (if 0 ≤ (wrap64 ((t102.length : Int) - 1)) then (if (wrap64 ((t102.length : Int) - 1)) < (t102.length : Int) then (if (rd t108 (wrap64 ((t108.length : Int) - 1))) = (rd t102 (wrap64 ((t102.length : Int) - 1))) then (if t111 > 0 then (if (rd t102 t111) > a2 then (epitomelaw18_KeepBounds.j0 k t102 t105 t108 t111 true) else (if (wrap64 (t111 + 1)) < (t102.length : Int) then (if 0 ≤ (wrap64 (t111 + 1)) then (epitomelaw18_KeepBounds.j0 k t102 t105 t108 t111 (decide ((rd t102 (wrap64 (t111 + 1))) ≤ a2))) else (none)) else (epitomelaw18_KeepBounds.j0 k t102 t105 t108 t111 false))) else (if (wrap64 (t111 + 1)) < (t102.length : Int) then (if 0 ≤ (wrap64 (t111 + 1)) then (epitomelaw18_KeepBounds.j0 k t102 t105 t108 t111 (decide ((rd t102 (wrap64 (t111 + 1))) ≤ a2))) else (none)) else (epitomelaw18_KeepBounds.j0 k t102 t105 t108 t111 false))) else (epitomelaw18_KeepBounds.j0 k t102 t105 t108 t111 true)) else (none)) else (none)) else (none)) else (none)) else (epitomelaw18_KeepBounds.j0 k t102 t105 t108 t111 true)) else (none)) else (none)) else (none))))) else (epitomelaw18_KeepBounds.j0 k t102 t105 t108 t111 true))))))) = some r := h
  clear h
  replace H := Option.bind_eq_some_iff.mp H
  obtain ⟨t101, A40, H⟩ := H
  replace H : ((epitomeref18_Fit.f k l0).bind fun t102 => ((epitomelaw18_few.f l1).bind fun t105 => ((keep_Of.f t102 t105 a2).bind fun t108 => ((keep_Floor.f k t102 a2).bind fun t111 => (if t101 = true then (if (t108.length : Int) = 0 then (epitomelaw18_KeepBounds.j0 k t102 t105 t108 t111 true) else (if t111 < 0 then (epitomelaw18_KeepBounds.j0 k t102 t105 t108 t111 true) else (if t111 ≥ (t102.length : Int) then (epitomelaw18_KeepBounds.j0 k t102 t105 t108 t111 true) else (if 0 < (t108.length : Int) then (if 0 ≤ t111 then (if t111 < (t102.length : Int) then (if (rd t108 0) = (rd t102 t111) then (if 0 ≤ (wrap64 ((t108.length : Int) - 1)) then (if (wrap64 ((t108.length : Int) - 1)) < (t108.length : Int) then (if 0 ≤ (wrap64 ((t102.length : Int) - 1)) then (if (wrap64 ((t102.length : Int) - 1)) < (t102.length : Int) then (if (rd t108 (wrap64 ((t108.length : Int) - 1))) = (rd t102 (wrap64 ((t102.length : Int) - 1))) then (if t111 > 0 then (if (rd t102 t111) > a2 then (epitomelaw18_KeepBounds.j0 k t102 t105 t108 t111 true) else (if (wrap64 (t111 + 1)) < (t102.length : Int) then (if 0 ≤ (wrap64 (t111 + 1)) then (epitomelaw18_KeepBounds.j0 k t102 t105 t108 t111 (decide ((rd t102 (wrap64 (t111 + 1))) ≤ a2))) else (none)) else (epitomelaw18_KeepBounds.j0 k t102 t105 t108 t111 false))) else (if (wrap64 (t111 + 1)) < (t102.length : Int) then (if 0 ≤ (wrap64 (t111 + 1)) then (epitomelaw18_KeepBounds.j0 k t102 t105 t108 t111 (decide ((rd t102 (wrap64 (t111 + 1))) ≤ a2))) else (none)) else (epitomelaw18_KeepBounds.j0 k t102 t105 t108 t111 false))) else (epitomelaw18_KeepBounds.j0 k t102 t105 t108 t111 true)) else (none)) else (none)) else (none)) else (none)) else (epitomelaw18_KeepBounds.j0 k t102 t105 t108 t111 true)) else (none)) else (none)) else (none))))) else (epitomelaw18_KeepBounds.j0 k t102 t105 t108 t111 true)))))) = some r := H
  have A4 := Aside0.mk A40
  clear A40
  replace H := Option.bind_eq_some_iff.mp H
  obtain ⟨t102, A50, H⟩ := H
  replace H : ((epitomelaw18_few.f l1).bind fun t105 => ((keep_Of.f t102 t105 a2).bind fun t108 => ((keep_Floor.f k t102 a2).bind fun t111 => (if t101 = true then (if (t108.length : Int) = 0 then (epitomelaw18_KeepBounds.j0 k t102 t105 t108 t111 true) else (if t111 < 0 then (epitomelaw18_KeepBounds.j0 k t102 t105 t108 t111 true) else (if t111 ≥ (t102.length : Int) then (epitomelaw18_KeepBounds.j0 k t102 t105 t108 t111 true) else (if 0 < (t108.length : Int) then (if 0 ≤ t111 then (if t111 < (t102.length : Int) then (if (rd t108 0) = (rd t102 t111) then (if 0 ≤ (wrap64 ((t108.length : Int) - 1)) then (if (wrap64 ((t108.length : Int) - 1)) < (t108.length : Int) then (if 0 ≤ (wrap64 ((t102.length : Int) - 1)) then (if (wrap64 ((t102.length : Int) - 1)) < (t102.length : Int) then (if (rd t108 (wrap64 ((t108.length : Int) - 1))) = (rd t102 (wrap64 ((t102.length : Int) - 1))) then (if t111 > 0 then (if (rd t102 t111) > a2 then (epitomelaw18_KeepBounds.j0 k t102 t105 t108 t111 true) else (if (wrap64 (t111 + 1)) < (t102.length : Int) then (if 0 ≤ (wrap64 (t111 + 1)) then (epitomelaw18_KeepBounds.j0 k t102 t105 t108 t111 (decide ((rd t102 (wrap64 (t111 + 1))) ≤ a2))) else (none)) else (epitomelaw18_KeepBounds.j0 k t102 t105 t108 t111 false))) else (if (wrap64 (t111 + 1)) < (t102.length : Int) then (if 0 ≤ (wrap64 (t111 + 1)) then (epitomelaw18_KeepBounds.j0 k t102 t105 t108 t111 (decide ((rd t102 (wrap64 (t111 + 1))) ≤ a2))) else (none)) else (epitomelaw18_KeepBounds.j0 k t102 t105 t108 t111 false))) else (epitomelaw18_KeepBounds.j0 k t102 t105 t108 t111 true)) else (none)) else (none)) else (none)) else (none)) else (epitomelaw18_KeepBounds.j0 k t102 t105 t108 t111 true)) else (none)) else (none)) else (none))))) else (epitomelaw18_KeepBounds.j0 k t102 t105 t108 t111 true))))) = some r := H
  have A5 := Aside0.mk A50
  clear A50
  replace H := Option.bind_eq_some_iff.mp H
  obtain ⟨t105, A60, H⟩ := H
  replace H : ((keep_Of.f t102 t105 a2).bind fun t108 => ((keep_Floor.f k t102 a2).bind fun t111 => (if t101 = true then (if (t108.length : Int) = 0 then (epitomelaw18_KeepBounds.j0 k t102 t105 t108 t111 true) else (if t111 < 0 then (epitomelaw18_KeepBounds.j0 k t102 t105 t108 t111 true) else (if t111 ≥ (t102.length : Int) then (epitomelaw18_KeepBounds.j0 k t102 t105 t108 t111 true) else (if 0 < (t108.length : Int) then (if 0 ≤ t111 then (if t111 < (t102.length : Int) then (if (rd t108 0) = (rd t102 t111) then (if 0 ≤ (wrap64 ((t108.length : Int) - 1)) then (if (wrap64 ((t108.length : Int) - 1)) < (t108.length : Int) then (if 0 ≤ (wrap64 ((t102.length : Int) - 1)) then (if (wrap64 ((t102.length : Int) - 1)) < (t102.length : Int) then (if (rd t108 (wrap64 ((t108.length : Int) - 1))) = (rd t102 (wrap64 ((t102.length : Int) - 1))) then (if t111 > 0 then (if (rd t102 t111) > a2 then (epitomelaw18_KeepBounds.j0 k t102 t105 t108 t111 true) else (if (wrap64 (t111 + 1)) < (t102.length : Int) then (if 0 ≤ (wrap64 (t111 + 1)) then (epitomelaw18_KeepBounds.j0 k t102 t105 t108 t111 (decide ((rd t102 (wrap64 (t111 + 1))) ≤ a2))) else (none)) else (epitomelaw18_KeepBounds.j0 k t102 t105 t108 t111 false))) else (if (wrap64 (t111 + 1)) < (t102.length : Int) then (if 0 ≤ (wrap64 (t111 + 1)) then (epitomelaw18_KeepBounds.j0 k t102 t105 t108 t111 (decide ((rd t102 (wrap64 (t111 + 1))) ≤ a2))) else (none)) else (epitomelaw18_KeepBounds.j0 k t102 t105 t108 t111 false))) else (epitomelaw18_KeepBounds.j0 k t102 t105 t108 t111 true)) else (none)) else (none)) else (none)) else (none)) else (epitomelaw18_KeepBounds.j0 k t102 t105 t108 t111 true)) else (none)) else (none)) else (none))))) else (epitomelaw18_KeepBounds.j0 k t102 t105 t108 t111 true)))) = some r := H
  have A6 := Aside0.mk A60
  clear A60
  replace H := Option.bind_eq_some_iff.mp H
  obtain ⟨t108, A70, H⟩ := H
  replace H : ((keep_Floor.f k t102 a2).bind fun t111 => (if t101 = true then (if (t108.length : Int) = 0 then (epitomelaw18_KeepBounds.j0 k t102 t105 t108 t111 true) else (if t111 < 0 then (epitomelaw18_KeepBounds.j0 k t102 t105 t108 t111 true) else (if t111 ≥ (t102.length : Int) then (epitomelaw18_KeepBounds.j0 k t102 t105 t108 t111 true) else (if 0 < (t108.length : Int) then (if 0 ≤ t111 then (if t111 < (t102.length : Int) then (if (rd t108 0) = (rd t102 t111) then (if 0 ≤ (wrap64 ((t108.length : Int) - 1)) then (if (wrap64 ((t108.length : Int) - 1)) < (t108.length : Int) then (if 0 ≤ (wrap64 ((t102.length : Int) - 1)) then (if (wrap64 ((t102.length : Int) - 1)) < (t102.length : Int) then (if (rd t108 (wrap64 ((t108.length : Int) - 1))) = (rd t102 (wrap64 ((t102.length : Int) - 1))) then (if t111 > 0 then (if (rd t102 t111) > a2 then (epitomelaw18_KeepBounds.j0 k t102 t105 t108 t111 true) else (if (wrap64 (t111 + 1)) < (t102.length : Int) then (if 0 ≤ (wrap64 (t111 + 1)) then (epitomelaw18_KeepBounds.j0 k t102 t105 t108 t111 (decide ((rd t102 (wrap64 (t111 + 1))) ≤ a2))) else (none)) else (epitomelaw18_KeepBounds.j0 k t102 t105 t108 t111 false))) else (if (wrap64 (t111 + 1)) < (t102.length : Int) then (if 0 ≤ (wrap64 (t111 + 1)) then (epitomelaw18_KeepBounds.j0 k t102 t105 t108 t111 (decide ((rd t102 (wrap64 (t111 + 1))) ≤ a2))) else (none)) else (epitomelaw18_KeepBounds.j0 k t102 t105 t108 t111 false))) else (epitomelaw18_KeepBounds.j0 k t102 t105 t108 t111 true)) else (none)) else (none)) else (none)) else (none)) else (epitomelaw18_KeepBounds.j0 k t102 t105 t108 t111 true)) else (none)) else (none)) else (none))))) else (epitomelaw18_KeepBounds.j0 k t102 t105 t108 t111 true))) = some r := H
  have A7 := Aside0.mk A70
  clear A70
  replace H := Option.bind_eq_some_iff.mp H
  obtain ⟨t111, A80, H⟩ := H
  replace H : (if t101 = true then (if (t108.length : Int) = 0 then (epitomelaw18_KeepBounds.j0 k t102 t105 t108 t111 true) else (if t111 < 0 then (epitomelaw18_KeepBounds.j0 k t102 t105 t108 t111 true) else (if t111 ≥ (t102.length : Int) then (epitomelaw18_KeepBounds.j0 k t102 t105 t108 t111 true) else (if 0 < (t108.length : Int) then (if 0 ≤ t111 then (if t111 < (t102.length : Int) then (if (rd t108 0) = (rd t102 t111) then (if 0 ≤ (wrap64 ((t108.length : Int) - 1)) then (if (wrap64 ((t108.length : Int) - 1)) < (t108.length : Int) then (if 0 ≤ (wrap64 ((t102.length : Int) - 1)) then (if (wrap64 ((t102.length : Int) - 1)) < (t102.length : Int) then (if (rd t108 (wrap64 ((t108.length : Int) - 1))) = (rd t102 (wrap64 ((t102.length : Int) - 1))) then (if t111 > 0 then (if (rd t102 t111) > a2 then (epitomelaw18_KeepBounds.j0 k t102 t105 t108 t111 true) else (if (wrap64 (t111 + 1)) < (t102.length : Int) then (if 0 ≤ (wrap64 (t111 + 1)) then (epitomelaw18_KeepBounds.j0 k t102 t105 t108 t111 (decide ((rd t102 (wrap64 (t111 + 1))) ≤ a2))) else (none)) else (epitomelaw18_KeepBounds.j0 k t102 t105 t108 t111 false))) else (if (wrap64 (t111 + 1)) < (t102.length : Int) then (if 0 ≤ (wrap64 (t111 + 1)) then (epitomelaw18_KeepBounds.j0 k t102 t105 t108 t111 (decide ((rd t102 (wrap64 (t111 + 1))) ≤ a2))) else (none)) else (epitomelaw18_KeepBounds.j0 k t102 t105 t108 t111 false))) else (epitomelaw18_KeepBounds.j0 k t102 t105 t108 t111 true)) else (none)) else (none)) else (none)) else (none)) else (epitomelaw18_KeepBounds.j0 k t102 t105 t108 t111 true)) else (none)) else (none)) else (none))))) else (epitomelaw18_KeepBounds.j0 k t102 t105 t108 t111 true)) = some r := H
  have A8 := Aside0.mk A80
  clear A80
  have HC9 := Aside0.mk H
  clear H
  go_enter Try.func3, Try.ntmps3
  go_upto_region 6 with (first | (go_at_call 5; (with_reducible refine (epitomelaw18_shown.calls k  t101 _ A4.out).mono ?_); rintro e w10 ⟨rfl, hb⟩; have n0_ := Aside0.mk (below_step (by repeat (first | (with_reducible first | exact HB.out | apply below_alloc | apply pw_below_drewN | apply below_drew1) | exact HB.out)) hb); clear HB; have HB := n0_; clear n0_; (try clear hb); (try clear hb2); (try clear hk); (try clear hi)) | (go_at_call 6; (with_reducible refine (epitomeref18_Fit.calls k _ _ l0 t102 _ ?side1 ?side2 A5.out).mono ?_); (case side1 => repeat (first | exact (Kd.C_below HR0.out HB.out) | (with_reducible refine Kd.C_alloc ?_ _) | (with_reducible refine Kd.C_drewN ?_ _) | (with_reducible refine Kd.C_drew ?_))); (case side2 => exact HC0.out); rintro e w11 ⟨v103, rfl, ho0, hb⟩; have n0_ := Aside0.mk (Kd.R_lower ho0 (below_size (by repeat (first | (with_reducible first | exact HB.out | apply below_alloc | apply pw_below_drewN | apply below_drew1) | exact HB.out)))); have n1_ := Aside0.mk (below_step (by repeat (first | (with_reducible first | exact HB.out | apply below_alloc | apply pw_below_drewN | apply below_drew1) | exact HB.out)) hb); clear HB; have HO104 := n0_; have HB := n1_; clear n0_ n1_; (try clear hb); (try clear hb2); (try clear hk); (try clear hi); (try clear ho0)) | (go_at_call 7; (with_reducible refine (epitomelaw18_few.calls (fun k_ => k_ < w.heap.size) _ _ l1 t105 _ ?side1 A6.out).mono ?_); (case side1 => exact Kd.V_mk HC1.out (Kd.F_below (Kd.C_F (Kd.heap_int .i64) HR1.out) (by repeat (first | (with_reducible first | exact HB.out | apply below_alloc | apply pw_below_drewN | apply below_drew1) | exact HB.out)))); rintro e w12 ⟨v106, rfl, ho0, hb⟩; have n0_ := Aside0.mk (Kd.R_below (by (with_reducible repeat (first | apply Kd.R_alloc | apply Kd.R_drewN | apply Kd.R_drew)); exact HO104.out) hb); have n1_ := Aside0.mk (Kd.V_lower (Kd.V_mono (ok' := fun k_ => some k_ ≠ (v103 : Value).ownBlock) ho0 (fun k_ hk_ => Or.elim hk_ (fun hs_ => fun e_ => Nat.not_le.2 hs_ (Kd.R_base HO104.out k_ e_.symm)) (fun hn_ => (Kd.fresh' (Kd.R_lt (by (with_reducible repeat (first | apply Kd.R_alloc | apply Kd.R_drewN | apply Kd.R_drew)); exact HO104.out)) k_ hn_)))) (below_size (by repeat (first | (with_reducible first | exact HB.out | apply below_alloc | apply pw_below_drewN | apply below_drew1) | exact HB.out)))); have n2_ := Aside0.mk (below_step (by repeat (first | (with_reducible first | exact HB.out | apply below_alloc | apply pw_below_drewN | apply below_drew1) | exact HB.out)) hb); clear HO104; clear HB; have HO104 := n0_; have HO107 := n1_; have HB := n2_; clear n0_ n1_ n2_; (try clear hb); (try clear hb2); (try clear hk); (try clear hi); (try clear ho0); obtain ⟨Ao13, co13, eo13⟩ := Kd.R_slice HO104.out; subst eo13; obtain ⟨Ao14, co14, eo14⟩ := Kd.V_slice HO107.out; subst eo14) | (go_at_call 8; (with_reducible refine (keep_Of.calls _ _ t102 _ _ t105 a2 t108 _ ?side1 ?side2 ?side3 ?side4 A7.out).mono ?_); (case side1 => repeat (first | exact (Kd.R_reads' HO104.out).2.2 | (with_reducible refine Kd.C_alloc ?_ _) | (with_reducible refine Kd.C_drewN ?_ _) | (with_reducible refine Kd.C_drew ?_))); (case side2 => exact (Kd.R_reads' HO104.out).2.1); (case side3 => repeat (first | exact (Kd.V_reads' HO107.out).2.2 | (with_reducible refine Kd.C_alloc ?_ _) | (with_reducible refine Kd.C_drewN ?_ _) | (with_reducible refine Kd.C_drew ?_))); (case side4 => exact (Kd.V_reads' HO107.out).2.1); rintro e w15 ⟨v109, rfl, ho0, hb⟩; have n0_ := Aside0.mk (Kd.R_elder' (by (with_reducible repeat (first | apply Kd.R_alloc | apply Kd.R_drewN | apply Kd.R_drew)); exact HO104.out) (Kd.R_base ho0) hb); have n1_ := Aside0.mk (Kd.V_elder' (by (with_reducible repeat (first | apply Kd.V_alloc | apply Kd.V_drewN | apply Kd.V_drew)); exact HO107.out) (Kd.R_base ho0) hb); have n2_ := Aside0.mk (Kd.R_lower (Kd.R_new' ho0 (Kd.R_lt (by (with_reducible repeat (first | apply Kd.R_alloc | apply Kd.R_drewN | apply Kd.R_drew)); exact HO104.out))) (below_size (by repeat (first | (with_reducible first | exact HB.out | apply below_alloc | apply pw_below_drewN | apply below_drew1) | exact HB.out)))); have n3_ := Aside0.mk (below_step (by repeat (first | (with_reducible first | exact HB.out | apply below_alloc | apply pw_below_drewN | apply below_drew1) | exact HB.out)) hb); clear HO104; clear HO107; clear HB; have HO104 := n0_; have HO107 := n1_; have HO110 := n2_; have HB := n3_; clear n0_ n1_ n2_ n3_; (try clear hb); (try clear hb2); (try clear hk); (try clear hi); (try clear ho0)) | (go_at_call 9; (with_reducible refine (keep_Floor.calls k _ _ t102 a2 t111 _ ?side1 ?side2 A8.out).mono ?_); (case side1 => repeat (first | exact (Kd.R_reads' HO104.out).2.2 | (with_reducible refine Kd.C_alloc ?_ _) | (with_reducible refine Kd.C_drewN ?_ _) | (with_reducible refine Kd.C_drew ?_))); (case side2 => exact (Kd.R_reads' HO104.out).2.1); rintro e w' ⟨rfl, ⟨nd, rfl⟩⟩; (try first | exact ⟨rfl, _, World.drewN_drewN _ _ _⟩ | exact ⟨rfl, _, Eq.trans (World.drewN_drewN _ _ _) (congrArg (World.drewN _) (Nat.add_assoc _ _ _))⟩)))
  repeat (go_quiet (first | (go_at_call 5; (with_reducible refine (epitomelaw18_shown.calls k  t101 _ A4.out).mono ?_); rintro e w10 ⟨rfl, hb⟩; have n0_ := Aside0.mk (below_step (by repeat (first | (with_reducible first | exact HB.out | apply below_alloc | apply pw_below_drewN | apply below_drew1) | exact HB.out)) hb); clear HB; have HB := n0_; clear n0_; (try clear hb); (try clear hb2); (try clear hk); (try clear hi)) | (go_at_call 6; (with_reducible refine (epitomeref18_Fit.calls k _ _ l0 t102 _ ?side1 ?side2 A5.out).mono ?_); (case side1 => repeat (first | exact (Kd.C_below HR0.out HB.out) | (with_reducible refine Kd.C_alloc ?_ _) | (with_reducible refine Kd.C_drewN ?_ _) | (with_reducible refine Kd.C_drew ?_))); (case side2 => exact HC0.out); rintro e w11 ⟨v103, rfl, ho0, hb⟩; have n0_ := Aside0.mk (Kd.R_lower ho0 (below_size (by repeat (first | (with_reducible first | exact HB.out | apply below_alloc | apply pw_below_drewN | apply below_drew1) | exact HB.out)))); have n1_ := Aside0.mk (below_step (by repeat (first | (with_reducible first | exact HB.out | apply below_alloc | apply pw_below_drewN | apply below_drew1) | exact HB.out)) hb); clear HB; have HO104 := n0_; have HB := n1_; clear n0_ n1_; (try clear hb); (try clear hb2); (try clear hk); (try clear hi); (try clear ho0)) | (go_at_call 7; (with_reducible refine (epitomelaw18_few.calls (fun k_ => k_ < w.heap.size) _ _ l1 t105 _ ?side1 A6.out).mono ?_); (case side1 => exact Kd.V_mk HC1.out (Kd.F_below (Kd.C_F (Kd.heap_int .i64) HR1.out) (by repeat (first | (with_reducible first | exact HB.out | apply below_alloc | apply pw_below_drewN | apply below_drew1) | exact HB.out)))); rintro e w12 ⟨v106, rfl, ho0, hb⟩; have n0_ := Aside0.mk (Kd.R_below (by (with_reducible repeat (first | apply Kd.R_alloc | apply Kd.R_drewN | apply Kd.R_drew)); exact HO104.out) hb); have n1_ := Aside0.mk (Kd.V_lower (Kd.V_mono (ok' := fun k_ => some k_ ≠ (v103 : Value).ownBlock) ho0 (fun k_ hk_ => Or.elim hk_ (fun hs_ => fun e_ => Nat.not_le.2 hs_ (Kd.R_base HO104.out k_ e_.symm)) (fun hn_ => (Kd.fresh' (Kd.R_lt (by (with_reducible repeat (first | apply Kd.R_alloc | apply Kd.R_drewN | apply Kd.R_drew)); exact HO104.out)) k_ hn_)))) (below_size (by repeat (first | (with_reducible first | exact HB.out | apply below_alloc | apply pw_below_drewN | apply below_drew1) | exact HB.out)))); have n2_ := Aside0.mk (below_step (by repeat (first | (with_reducible first | exact HB.out | apply below_alloc | apply pw_below_drewN | apply below_drew1) | exact HB.out)) hb); clear HO104; clear HB; have HO104 := n0_; have HO107 := n1_; have HB := n2_; clear n0_ n1_ n2_; (try clear hb); (try clear hb2); (try clear hk); (try clear hi); (try clear ho0); obtain ⟨Ao13, co13, eo13⟩ := Kd.R_slice HO104.out; subst eo13; obtain ⟨Ao14, co14, eo14⟩ := Kd.V_slice HO107.out; subst eo14) | (go_at_call 8; (with_reducible refine (keep_Of.calls _ _ t102 _ _ t105 a2 t108 _ ?side1 ?side2 ?side3 ?side4 A7.out).mono ?_); (case side1 => repeat (first | exact (Kd.R_reads' HO104.out).2.2 | (with_reducible refine Kd.C_alloc ?_ _) | (with_reducible refine Kd.C_drewN ?_ _) | (with_reducible refine Kd.C_drew ?_))); (case side2 => exact (Kd.R_reads' HO104.out).2.1); (case side3 => repeat (first | exact (Kd.V_reads' HO107.out).2.2 | (with_reducible refine Kd.C_alloc ?_ _) | (with_reducible refine Kd.C_drewN ?_ _) | (with_reducible refine Kd.C_drew ?_))); (case side4 => exact (Kd.V_reads' HO107.out).2.1); rintro e w15 ⟨v109, rfl, ho0, hb⟩; have n0_ := Aside0.mk (Kd.R_elder' (by (with_reducible repeat (first | apply Kd.R_alloc | apply Kd.R_drewN | apply Kd.R_drew)); exact HO104.out) (Kd.R_base ho0) hb); have n1_ := Aside0.mk (Kd.V_elder' (by (with_reducible repeat (first | apply Kd.V_alloc | apply Kd.V_drewN | apply Kd.V_drew)); exact HO107.out) (Kd.R_base ho0) hb); have n2_ := Aside0.mk (Kd.R_lower (Kd.R_new' ho0 (Kd.R_lt (by (with_reducible repeat (first | apply Kd.R_alloc | apply Kd.R_drewN | apply Kd.R_drew)); exact HO104.out))) (below_size (by repeat (first | (with_reducible first | exact HB.out | apply below_alloc | apply pw_below_drewN | apply below_drew1) | exact HB.out)))); have n3_ := Aside0.mk (below_step (by repeat (first | (with_reducible first | exact HB.out | apply below_alloc | apply pw_below_drewN | apply below_drew1) | exact HB.out)) hb); clear HO104; clear HO107; clear HB; have HO104 := n0_; have HO107 := n1_; have HO110 := n2_; have HB := n3_; clear n0_ n1_ n2_ n3_; (try clear hb); (try clear hb2); (try clear hk); (try clear hi); (try clear ho0)) | (go_at_call 9; (with_reducible refine (keep_Floor.calls k _ _ t102 a2 t111 _ ?side1 ?side2 A8.out).mono ?_); (case side1 => repeat (first | exact (Kd.R_reads' HO104.out).2.2 | (with_reducible refine Kd.C_alloc ?_ _) | (with_reducible refine Kd.C_drewN ?_ _) | (with_reducible refine Kd.C_drew ?_))); (case side2 => exact (Kd.R_reads' HO104.out).2.1); rintro e w' ⟨rfl, ⟨nd, rfl⟩⟩; (try first | exact ⟨rfl, _, World.drewN_drewN _ _ _⟩ | exact ⟨rfl, _, Eq.trans (World.drewN_drewN _ _ _) (congrArg (World.drewN _) (Nat.add_assoc _ _ _))⟩))); go_upto_region 6 with (first | (go_at_call 5; (with_reducible refine (epitomelaw18_shown.calls k  t101 _ A4.out).mono ?_); rintro e w10 ⟨rfl, hb⟩; have n0_ := Aside0.mk (below_step (by repeat (first | (with_reducible first | exact HB.out | apply below_alloc | apply pw_below_drewN | apply below_drew1) | exact HB.out)) hb); clear HB; have HB := n0_; clear n0_; (try clear hb); (try clear hb2); (try clear hk); (try clear hi)) | (go_at_call 6; (with_reducible refine (epitomeref18_Fit.calls k _ _ l0 t102 _ ?side1 ?side2 A5.out).mono ?_); (case side1 => repeat (first | exact (Kd.C_below HR0.out HB.out) | (with_reducible refine Kd.C_alloc ?_ _) | (with_reducible refine Kd.C_drewN ?_ _) | (with_reducible refine Kd.C_drew ?_))); (case side2 => exact HC0.out); rintro e w11 ⟨v103, rfl, ho0, hb⟩; have n0_ := Aside0.mk (Kd.R_lower ho0 (below_size (by repeat (first | (with_reducible first | exact HB.out | apply below_alloc | apply pw_below_drewN | apply below_drew1) | exact HB.out)))); have n1_ := Aside0.mk (below_step (by repeat (first | (with_reducible first | exact HB.out | apply below_alloc | apply pw_below_drewN | apply below_drew1) | exact HB.out)) hb); clear HB; have HO104 := n0_; have HB := n1_; clear n0_ n1_; (try clear hb); (try clear hb2); (try clear hk); (try clear hi); (try clear ho0)) | (go_at_call 7; (with_reducible refine (epitomelaw18_few.calls (fun k_ => k_ < w.heap.size) _ _ l1 t105 _ ?side1 A6.out).mono ?_); (case side1 => exact Kd.V_mk HC1.out (Kd.F_below (Kd.C_F (Kd.heap_int .i64) HR1.out) (by repeat (first | (with_reducible first | exact HB.out | apply below_alloc | apply pw_below_drewN | apply below_drew1) | exact HB.out)))); rintro e w12 ⟨v106, rfl, ho0, hb⟩; have n0_ := Aside0.mk (Kd.R_below (by (with_reducible repeat (first | apply Kd.R_alloc | apply Kd.R_drewN | apply Kd.R_drew)); exact HO104.out) hb); have n1_ := Aside0.mk (Kd.V_lower (Kd.V_mono (ok' := fun k_ => some k_ ≠ (v103 : Value).ownBlock) ho0 (fun k_ hk_ => Or.elim hk_ (fun hs_ => fun e_ => Nat.not_le.2 hs_ (Kd.R_base HO104.out k_ e_.symm)) (fun hn_ => (Kd.fresh' (Kd.R_lt (by (with_reducible repeat (first | apply Kd.R_alloc | apply Kd.R_drewN | apply Kd.R_drew)); exact HO104.out)) k_ hn_)))) (below_size (by repeat (first | (with_reducible first | exact HB.out | apply below_alloc | apply pw_below_drewN | apply below_drew1) | exact HB.out)))); have n2_ := Aside0.mk (below_step (by repeat (first | (with_reducible first | exact HB.out | apply below_alloc | apply pw_below_drewN | apply below_drew1) | exact HB.out)) hb); clear HO104; clear HB; have HO104 := n0_; have HO107 := n1_; have HB := n2_; clear n0_ n1_ n2_; (try clear hb); (try clear hb2); (try clear hk); (try clear hi); (try clear ho0); obtain ⟨Ao13, co13, eo13⟩ := Kd.R_slice HO104.out; subst eo13; obtain ⟨Ao14, co14, eo14⟩ := Kd.V_slice HO107.out; subst eo14) | (go_at_call 8; (with_reducible refine (keep_Of.calls _ _ t102 _ _ t105 a2 t108 _ ?side1 ?side2 ?side3 ?side4 A7.out).mono ?_); (case side1 => repeat (first | exact (Kd.R_reads' HO104.out).2.2 | (with_reducible refine Kd.C_alloc ?_ _) | (with_reducible refine Kd.C_drewN ?_ _) | (with_reducible refine Kd.C_drew ?_))); (case side2 => exact (Kd.R_reads' HO104.out).2.1); (case side3 => repeat (first | exact (Kd.V_reads' HO107.out).2.2 | (with_reducible refine Kd.C_alloc ?_ _) | (with_reducible refine Kd.C_drewN ?_ _) | (with_reducible refine Kd.C_drew ?_))); (case side4 => exact (Kd.V_reads' HO107.out).2.1); rintro e w15 ⟨v109, rfl, ho0, hb⟩; have n0_ := Aside0.mk (Kd.R_elder' (by (with_reducible repeat (first | apply Kd.R_alloc | apply Kd.R_drewN | apply Kd.R_drew)); exact HO104.out) (Kd.R_base ho0) hb); have n1_ := Aside0.mk (Kd.V_elder' (by (with_reducible repeat (first | apply Kd.V_alloc | apply Kd.V_drewN | apply Kd.V_drew)); exact HO107.out) (Kd.R_base ho0) hb); have n2_ := Aside0.mk (Kd.R_lower (Kd.R_new' ho0 (Kd.R_lt (by (with_reducible repeat (first | apply Kd.R_alloc | apply Kd.R_drewN | apply Kd.R_drew)); exact HO104.out))) (below_size (by repeat (first | (with_reducible first | exact HB.out | apply below_alloc | apply pw_below_drewN | apply below_drew1) | exact HB.out)))); have n3_ := Aside0.mk (below_step (by repeat (first | (with_reducible first | exact HB.out | apply below_alloc | apply pw_below_drewN | apply below_drew1) | exact HB.out)) hb); clear HO104; clear HO107; clear HB; have HO104 := n0_; have HO107 := n1_; have HO110 := n2_; have HB := n3_; clear n0_ n1_ n2_ n3_; (try clear hb); (try clear hb2); (try clear hk); (try clear hi); (try clear ho0)) | (go_at_call 9; (with_reducible refine (keep_Floor.calls k _ _ t102 a2 t111 _ ?side1 ?side2 A8.out).mono ?_); (case side1 => repeat (first | exact (Kd.R_reads' HO104.out).2.2 | (with_reducible refine Kd.C_alloc ?_ _) | (with_reducible refine Kd.C_drewN ?_ _) | (with_reducible refine Kd.C_drew ?_))); (case side2 => exact (Kd.R_reads' HO104.out).2.1); rintro e w' ⟨rfl, ⟨nd, rfl⟩⟩; (try first | exact ⟨rfl, _, World.drewN_drewN _ _ _⟩ | exact ⟨rfl, _, Eq.trans (World.drewN_drewN _ _ _) (congrArg (World.drewN _) (Nat.add_assoc _ _ _))⟩))))
  (try simp only [Act.put, List.setIfInBounds_toArray, List.set_cons_zero, List.set_cons_succ])
  go_cut [95] (fun v95 wc => ∃ (kq : Nat) (x95_8 : Bool), v95 = .bool x95_8 ∧ Aside0 (epitomelaw18_KeepBounds.j0 kq t102 t105 t108 t111 x95_8 = some r) ∧ Aside0 (kq ≤ k) ∧ Aside0 (Kd.R (Kd.int .i64) 3 wc w.heap.size (fun k_ => some k_ ≠ (v109 : Value).ownBlock) (.slice Ao13 t102.length co13) t102) ∧ Aside0 (Kd.V (Kd.int .i64) 3 wc w.heap.size (fun k_ => some k_ ≠ ((.slice Ao13 t102.length co13) : Value).ownBlock ∧ some k_ ≠ (v109 : Value).ownBlock) (.slice Ao14 t105.length co14) t105) ∧ Aside0 (Kd.R (Kd.int .i64) 3 wc w.heap.size (fun k_ => some k_ ≠ ((.slice Ao13 t102.length co13) : Value).ownBlock) v109 t108) ∧ Aside0 (Below w.heap.size w wc))
  case first =>
    have H := HC9.out
    clear HC9
    by_cases c16 : t101 = true
    · subst c16
      have H1 : (if (t108.length : Int) = 0 then (epitomelaw18_KeepBounds.j0 k t102 t105 t108 t111 true) else (if t111 < 0 then (epitomelaw18_KeepBounds.j0 k t102 t105 t108 t111 true) else (if t111 ≥ (t102.length : Int) then (epitomelaw18_KeepBounds.j0 k t102 t105 t108 t111 true) else (if 0 < (t108.length : Int) then (if 0 ≤ t111 then (if t111 < (t102.length : Int) then (if (rd t108 0) = (rd t102 t111) then (if 0 ≤ (wrap64 ((t108.length : Int) - 1)) then (if (wrap64 ((t108.length : Int) - 1)) < (t108.length : Int) then (if 0 ≤ (wrap64 ((t102.length : Int) - 1)) then (if (wrap64 ((t102.length : Int) - 1)) < (t102.length : Int) then (if (rd t108 (wrap64 ((t108.length : Int) - 1))) = (rd t102 (wrap64 ((t102.length : Int) - 1))) then (if t111 > 0 then (if (rd t102 t111) > a2 then (epitomelaw18_KeepBounds.j0 k t102 t105 t108 t111 true) else (if (wrap64 (t111 + 1)) < (t102.length : Int) then (if 0 ≤ (wrap64 (t111 + 1)) then (epitomelaw18_KeepBounds.j0 k t102 t105 t108 t111 (decide ((rd t102 (wrap64 (t111 + 1))) ≤ a2))) else (none)) else (epitomelaw18_KeepBounds.j0 k t102 t105 t108 t111 false))) else (if (wrap64 (t111 + 1)) < (t102.length : Int) then (if 0 ≤ (wrap64 (t111 + 1)) then (epitomelaw18_KeepBounds.j0 k t102 t105 t108 t111 (decide ((rd t102 (wrap64 (t111 + 1))) ≤ a2))) else (none)) else (epitomelaw18_KeepBounds.j0 k t102 t105 t108 t111 false))) else (epitomelaw18_KeepBounds.j0 k t102 t105 t108 t111 true)) else (none)) else (none)) else (none)) else (none)) else (epitomelaw18_KeepBounds.j0 k t102 t105 t108 t111 true)) else (none)) else (none)) else (none))))) = some r := by rw [if_pos rfl] at H; exact H
      clear H
      have H := H1
      clear H1
      by_cases c17 : (t108.length : Int) = 0
      · rw [if_pos c17] at H
        have c17b0 : ((t108.length : Int) == 0) = true := beq_iff_eq.mpr c17
        have c17b1 : ((t108.length : Int) != 0) = false := bne_eq_false_iff_eq.mpr c17
        clear c17
        (first | rw [c17b0] | (simp only [i64_w, i32_w]; rw [c17b0]) | skip)
        exact absurd (H.trans (congrArg some hr_.out)) (jno_ _ _ _ _ _)
      · rw [if_neg c17] at H
        have c17b0 : ((t108.length : Int) == 0) = false := beq_eq_false_iff_ne.mpr c17
        have c17b1 : ((t108.length : Int) != 0) = true := bne_iff_ne.mpr c17
        have c17b2 : ¬ (t108 = []) := fun h_ => c17 (by rw [h_]; rfl)
        (first | rw [c17b0] | (simp only [i64_w, i32_w]; rw [c17b0]) | skip)
        by_cases c19 : t111 < 0
        · rw [if_pos c19] at H
          have c19b0 : decide (t111 < 0) = true := decide_eq_true c19
          clear c19
          exact absurd (H.trans (congrArg some hr_.out)) (jno_ _ _ _ _ _)
        · rw [if_neg c19] at H
          have c19b0 : decide (t111 < 0) = false := decide_eq_false c19
          clear c19
          by_cases c21 : t111 ≥ (t102.length : Int)
          · rw [if_pos c21] at H
            have c21b0 : decide ((t102.length : Int) ≤ t111) = true := decide_eq_true c21
            clear c21
            exact absurd (H.trans (congrArg some hr_.out)) (jno_ _ _ _ _ _)
          · rw [if_neg c21] at H
            have c21b0 : decide ((t102.length : Int) ≤ t111) = false := decide_eq_false c21
            clear c21
            by_cases c23 : 0 < (t108.length : Int)
            · rw [if_pos c23] at H
              have c23b0 : decide (0 < (t108.length : Int)) = true := decide_eq_true c23
              have c23b1 : decide (0 < t108.length) = true := decide_eq_true (by omega)
              clear c23
              by_cases c24 : 0 ≤ t111
              · rw [if_pos c24] at H
                have c24b0 : decide (0 ≤ t111) = true := decide_eq_true c24
                clear c24
                by_cases c25 : t111 < (t102.length : Int)
                · rw [if_pos c25] at H
                  have c25b0 : decide (t111 < (t102.length : Int)) = true := decide_eq_true c25
                  clear c25
                  by_cases c26 : (rd t108 0) = (rd t102 t111)
                  · rw [if_pos c26] at H
                    have c26b0 : ((rd t108 0) == (rd t102 t111)) = true := beq_iff_eq.mpr c26
                    have c26b1 : ((rd t108 0) != (rd t102 t111)) = false := bne_eq_false_iff_eq.mpr c26
                    clear c26
                    obtain ⟨ji27, hji27⟩ : ∃ j_ : Int, (wrap64 ((t108.length : Int) - 1)) = j_ := ⟨_, rfl⟩
                    replace H : (if 0 ≤ (ji27) then (if (ji27) < (t108.length : Int) then (if 0 ≤ (wrap64 ((t102.length : Int) - 1)) then (if (wrap64 ((t102.length : Int) - 1)) < (t102.length : Int) then (if (rd t108 (ji27)) = (rd t102 (wrap64 ((t102.length : Int) - 1))) then (if t111 > 0 then (if (rd t102 t111) > a2 then (epitomelaw18_KeepBounds.j0 k t102 t105 t108 t111 true) else (if (wrap64 (t111 + 1)) < (t102.length : Int) then (if 0 ≤ (wrap64 (t111 + 1)) then (epitomelaw18_KeepBounds.j0 k t102 t105 t108 t111 (decide ((rd t102 (wrap64 (t111 + 1))) ≤ a2))) else (none)) else (epitomelaw18_KeepBounds.j0 k t102 t105 t108 t111 false))) else (if (wrap64 (t111 + 1)) < (t102.length : Int) then (if 0 ≤ (wrap64 (t111 + 1)) then (epitomelaw18_KeepBounds.j0 k t102 t105 t108 t111 (decide ((rd t102 (wrap64 (t111 + 1))) ≤ a2))) else (none)) else (epitomelaw18_KeepBounds.j0 k t102 t105 t108 t111 false))) else (epitomelaw18_KeepBounds.j0 k t102 t105 t108 t111 true)) else (none)) else (none)) else (none)) else (none)) = some r := by first | (rw [hji27] at H; exact H) | (simp only [hji27] at H ⊢; exact H)
                    have hji27w : (IntKind.i64.wrap ((t108.length : Int) - 1)) = ji27 := (i64_w _).trans hji27
                    by_cases c28 : 0 ≤ (ji27)
                    · rw [if_pos c28] at H
                      have c28b0 : decide (0 ≤ (ji27)) = true := decide_eq_true c28
                      clear c28
                      by_cases c29 : (ji27) < (t108.length : Int)
                      · rw [if_pos c29] at H
                        have c29b0 : decide ((ji27) < (t108.length : Int)) = true := decide_eq_true c29
                        clear c29
                        obtain ⟨ji30, hji30⟩ : ∃ j_ : Int, (wrap64 ((t102.length : Int) - 1)) = j_ := ⟨_, rfl⟩
                        replace H : (if 0 ≤ (ji30) then (if (ji30) < (t102.length : Int) then (if (rd t108 (ji27)) = (rd t102 (ji30)) then (if t111 > 0 then (if (rd t102 t111) > a2 then (epitomelaw18_KeepBounds.j0 k t102 t105 t108 t111 true) else (if (wrap64 (t111 + 1)) < (t102.length : Int) then (if 0 ≤ (wrap64 (t111 + 1)) then (epitomelaw18_KeepBounds.j0 k t102 t105 t108 t111 (decide ((rd t102 (wrap64 (t111 + 1))) ≤ a2))) else (none)) else (epitomelaw18_KeepBounds.j0 k t102 t105 t108 t111 false))) else (if (wrap64 (t111 + 1)) < (t102.length : Int) then (if 0 ≤ (wrap64 (t111 + 1)) then (epitomelaw18_KeepBounds.j0 k t102 t105 t108 t111 (decide ((rd t102 (wrap64 (t111 + 1))) ≤ a2))) else (none)) else (epitomelaw18_KeepBounds.j0 k t102 t105 t108 t111 false))) else (epitomelaw18_KeepBounds.j0 k t102 t105 t108 t111 true)) else (none)) else (none)) = some r := by first | (rw [hji30] at H; exact H) | (simp only [hji30] at H ⊢; exact H)
                        have hji30w : (IntKind.i64.wrap ((t102.length : Int) - 1)) = ji30 := (i64_w _).trans hji30
                        by_cases c31 : 0 ≤ (ji30)
                        · rw [if_pos c31] at H
                          have c31b0 : decide (0 ≤ (ji30)) = true := decide_eq_true c31
                          clear c31
                          by_cases c32 : (ji30) < (t102.length : Int)
                          · rw [if_pos c32] at H
                            have c32b0 : decide ((ji30) < (t102.length : Int)) = true := decide_eq_true c32
                            clear c32
                            by_cases c33 : (rd t108 (ji27)) = (rd t102 (ji30))
                            · rw [if_pos c33] at H
                              have c33b0 : ((rd t108 (ji27)) == (rd t102 (ji30))) = true := beq_iff_eq.mpr c33
                              have c33b1 : ((rd t108 (ji27)) != (rd t102 (ji30))) = false := bne_eq_false_iff_eq.mpr c33
                              clear c33
                              by_cases c34 : t111 > 0
                              · rw [if_pos c34] at H
                                have c34b0 : decide (0 < t111) = true := decide_eq_true c34
                                clear c34
                                by_cases c35 : (rd t102 t111) > a2
                                · rw [if_pos c35] at H
                                  have c35b0 : decide (a2 < (rd t102 t111)) = true := decide_eq_true c35
                                  clear c35
                                  exact absurd (H.trans (congrArg some hr_.out)) (jno_ _ _ _ _ _)
                                · rw [if_neg c35] at H
                                  have c35b0 : decide (a2 < (rd t102 t111)) = false := decide_eq_false c35
                                  clear c35
                                  by_cases c37 : (wrap64 (t111 + 1)) < (t102.length : Int)
                                  · rw [if_pos c37] at H
                                    have c37b0 : decide ((wrap64 (t111 + 1)) < (t102.length : Int)) = true := decide_eq_true c37
                                    clear c37
                                    obtain ⟨ji38, hji38⟩ : ∃ j_ : Int, (wrap64 (t111 + 1)) = j_ := ⟨_, rfl⟩
                                    replace H : (if 0 ≤ (ji38) then (epitomelaw18_KeepBounds.j0 k t102 t105 t108 t111 (decide ((rd t102 (ji38)) ≤ a2))) else (none)) = some r := by first | (rw [hji38] at H; exact H) | (simp only [hji38] at H ⊢; exact H)
                                    (try rw [hji38] at c37b0)
                                    have hji38w : (IntKind.i64.wrap (t111 + 1)) = ji38 := (i64_w _).trans hji38
                                    by_cases c39 : 0 ≤ (ji38)
                                    · rw [if_pos c39] at H
                                      have c39b0 : decide (0 ≤ (ji38)) = true := decide_eq_true c39
                                      clear c39
                                      have H' := Aside0.mk H
                                      clear H
                                      obtain ⟨Ao40, co40, eo40⟩ := Kd.R_slice HO110.out
                                      subst eo40
                                      have p112 : 0 ≤ (0 : Int) := (by omega)
                                      have q112 : 0 < (t108.length : Int) := of_decide_eq_true (by first | (with_reducible assumption) | assumption)
                                      obtain ⟨ad112, e112, hx112_0⟩ := Kd.at_int (Kd.R_reads' HO110.out).2.2 0 p112 q112
                                      cases e112
                                      have qi112 : (0 < t108.length) = True := eq_true (by omega)
                                      (try rw [show ((0 : Int)).toNat = 0 from rfl] at hx112_0)
                                      (try rw [Addr.add_zero'] at hx112_0)
                                      replace p112 := eq_true p112
                                      replace q112 := eq_true q112
                                      have p113 : 0 ≤ (t111 : Int) := of_decide_eq_true (by first | (with_reducible assumption) | assumption)
                                      have q113 : t111 < (t102.length : Int) := of_decide_eq_true (by first | (with_reducible assumption) | assumption)
                                      obtain ⟨ad113, e113, hx113_0⟩ := Kd.at_int (Kd.R_reads' HO104.out).2.2 t111 p113 q113
                                      cases e113
                                      replace p113 := eq_true p113
                                      replace q113 := eq_true q113
                                      have p114 : 0 ≤ ((ji27) : Int) := of_decide_eq_true (by first | (with_reducible assumption) | assumption)
                                      have q114 : (ji27) < (t108.length : Int) := of_decide_eq_true (by first | (with_reducible assumption) | assumption)
                                      obtain ⟨ad114, e114, hx114_0⟩ := Kd.at_int (Kd.R_reads' HO110.out).2.2 (ji27) p114 q114
                                      obtain rfl : ad112 = ad114 := (by injection e114)
                                      replace p114 := eq_true p114
                                      replace q114 := eq_true q114
                                      have p115 : 0 ≤ ((ji30) : Int) := of_decide_eq_true (by first | (with_reducible assumption) | assumption)
                                      have q115 : (ji30) < (t102.length : Int) := of_decide_eq_true (by first | (with_reducible assumption) | assumption)
                                      obtain ⟨ad115, e115, hx115_0⟩ := Kd.at_int (Kd.R_reads' HO104.out).2.2 (ji30) p115 q115
                                      obtain rfl : ad113 = ad115 := (by injection e115)
                                      replace p115 := eq_true p115
                                      replace q115 := eq_true q115
                                      have p116 : 0 ≤ (t111 : Int) := of_decide_eq_true (by first | (with_reducible assumption) | assumption)
                                      have q116 : t111 < (t102.length : Int) := of_decide_eq_true (by first | (with_reducible assumption) | assumption)
                                      obtain ⟨ad116, e116, hx116_0⟩ := Kd.at_int (Kd.R_reads' HO104.out).2.2 t111 p116 q116
                                      obtain rfl : ad113 = ad116 := (by injection e116)
                                      replace p116 := eq_true p116
                                      replace q116 := eq_true q116
                                      have p117 : 0 ≤ ((ji38) : Int) := of_decide_eq_true (by first | (with_reducible assumption) | assumption)
                                      have q117 : (ji38) < (t102.length : Int) := of_decide_eq_true (by first | (with_reducible assumption) | assumption)
                                      obtain ⟨ad117, e117, hx117_0⟩ := Kd.at_int (Kd.R_reads' HO104.out).2.2 (ji38) p117 q117
                                      obtain rfl : ad113 = ad117 := (by injection e117)
                                      replace p117 := eq_true p117
                                      replace q117 := eq_true q117
                                      go_wp2
                                      repeat (go_quiet (fail); try go_wp2)
                                      go_meet
                                      case rel => exact ⟨_, (decide ((rd t102 (ji38)) ≤ a2)), (by first | rfl | (simp; done) | (simp only [← hji38] <;> (first | rfl | simp)) | (simp [*]; done)), H', ⟨by first | omega | exact Nat.le_refl _⟩, ⟨by (with_reducible repeat (first | apply Kd.R_alloc | apply Kd.R_drewN | apply Kd.R_drew)); exact Kd.R_mono HO104.out (fun _ hk => hk.2)⟩, ⟨by (with_reducible repeat (first | apply Kd.V_alloc | apply Kd.V_drewN | apply Kd.V_drew)); exact HO107.out⟩, ⟨by (with_reducible repeat (first | apply Kd.R_alloc | apply Kd.R_drewN | apply Kd.R_drew)); exact Kd.R_mono HO110.out (fun _ hk => hk.2)⟩, ⟨by repeat (first | (with_reducible first | exact HB.out | apply below_alloc | apply pw_below_drewN | apply below_drew1) | exact HB.out)⟩⟩
                                    · rw [if_neg c39] at H
                                      exact absurd H (by simp)
                                  · rw [if_neg c37] at H
                                    have c37b0 : decide ((wrap64 (t111 + 1)) < (t102.length : Int)) = false := decide_eq_false c37
                                    clear c37
                                    have H' := Aside0.mk H
                                    clear H
                                    obtain ⟨Ao41, co41, eo41⟩ := Kd.R_slice HO110.out
                                    subst eo41
                                    have p112 : 0 ≤ (0 : Int) := (by omega)
                                    have q112 : 0 < (t108.length : Int) := of_decide_eq_true (by first | (with_reducible assumption) | assumption)
                                    obtain ⟨ad112, e112, hx112_0⟩ := Kd.at_int (Kd.R_reads' HO110.out).2.2 0 p112 q112
                                    cases e112
                                    have qi112 : (0 < t108.length) = True := eq_true (by omega)
                                    (try rw [show ((0 : Int)).toNat = 0 from rfl] at hx112_0)
                                    (try rw [Addr.add_zero'] at hx112_0)
                                    replace p112 := eq_true p112
                                    replace q112 := eq_true q112
                                    have p113 : 0 ≤ (t111 : Int) := of_decide_eq_true (by first | (with_reducible assumption) | assumption)
                                    have q113 : t111 < (t102.length : Int) := of_decide_eq_true (by first | (with_reducible assumption) | assumption)
                                    obtain ⟨ad113, e113, hx113_0⟩ := Kd.at_int (Kd.R_reads' HO104.out).2.2 t111 p113 q113
                                    cases e113
                                    replace p113 := eq_true p113
                                    replace q113 := eq_true q113
                                    have p114 : 0 ≤ ((ji27) : Int) := of_decide_eq_true (by first | (with_reducible assumption) | assumption)
                                    have q114 : (ji27) < (t108.length : Int) := of_decide_eq_true (by first | (with_reducible assumption) | assumption)
                                    obtain ⟨ad114, e114, hx114_0⟩ := Kd.at_int (Kd.R_reads' HO110.out).2.2 (ji27) p114 q114
                                    obtain rfl : ad112 = ad114 := (by injection e114)
                                    replace p114 := eq_true p114
                                    replace q114 := eq_true q114
                                    have p115 : 0 ≤ ((ji30) : Int) := of_decide_eq_true (by first | (with_reducible assumption) | assumption)
                                    have q115 : (ji30) < (t102.length : Int) := of_decide_eq_true (by first | (with_reducible assumption) | assumption)
                                    obtain ⟨ad115, e115, hx115_0⟩ := Kd.at_int (Kd.R_reads' HO104.out).2.2 (ji30) p115 q115
                                    obtain rfl : ad113 = ad115 := (by injection e115)
                                    replace p115 := eq_true p115
                                    replace q115 := eq_true q115
                                    have p116 : 0 ≤ (t111 : Int) := of_decide_eq_true (by first | (with_reducible assumption) | assumption)
                                    have q116 : t111 < (t102.length : Int) := of_decide_eq_true (by first | (with_reducible assumption) | assumption)
                                    obtain ⟨ad116, e116, hx116_0⟩ := Kd.at_int (Kd.R_reads' HO104.out).2.2 t111 p116 q116
                                    obtain rfl : ad113 = ad116 := (by injection e116)
                                    replace p116 := eq_true p116
                                    replace q116 := eq_true q116
                                    go_wp2
                                    repeat (go_quiet (fail); try go_wp2)
                                    go_meet
                                    case rel => exact ⟨_, (false), (by first | rfl | (simp; done) | (simp [*]; done)), H', ⟨by first | omega | exact Nat.le_refl _⟩, ⟨by (with_reducible repeat (first | apply Kd.R_alloc | apply Kd.R_drewN | apply Kd.R_drew)); exact Kd.R_mono HO104.out (fun _ hk => hk.2)⟩, ⟨by (with_reducible repeat (first | apply Kd.V_alloc | apply Kd.V_drewN | apply Kd.V_drew)); exact HO107.out⟩, ⟨by (with_reducible repeat (first | apply Kd.R_alloc | apply Kd.R_drewN | apply Kd.R_drew)); exact Kd.R_mono HO110.out (fun _ hk => hk.2)⟩, ⟨by repeat (first | (with_reducible first | exact HB.out | apply below_alloc | apply pw_below_drewN | apply below_drew1) | exact HB.out)⟩⟩
                              · rw [if_neg c34] at H
                                have c34b0 : decide (0 < t111) = false := decide_eq_false c34
                                clear c34
                                by_cases c42 : (wrap64 (t111 + 1)) < (t102.length : Int)
                                · rw [if_pos c42] at H
                                  have c42b0 : decide ((wrap64 (t111 + 1)) < (t102.length : Int)) = true := decide_eq_true c42
                                  clear c42
                                  obtain ⟨ji43, hji43⟩ : ∃ j_ : Int, (wrap64 (t111 + 1)) = j_ := ⟨_, rfl⟩
                                  replace H : (if 0 ≤ (ji43) then (epitomelaw18_KeepBounds.j0 k t102 t105 t108 t111 (decide ((rd t102 (ji43)) ≤ a2))) else (none)) = some r := by first | (rw [hji43] at H; exact H) | (simp only [hji43] at H ⊢; exact H)
                                  (try rw [hji43] at c42b0)
                                  have hji43w : (IntKind.i64.wrap (t111 + 1)) = ji43 := (i64_w _).trans hji43
                                  by_cases c44 : 0 ≤ (ji43)
                                  · rw [if_pos c44] at H
                                    have c44b0 : decide (0 ≤ (ji43)) = true := decide_eq_true c44
                                    clear c44
                                    have H' := Aside0.mk H
                                    clear H
                                    obtain ⟨Ao45, co45, eo45⟩ := Kd.R_slice HO110.out
                                    subst eo45
                                    have p112 : 0 ≤ (0 : Int) := (by omega)
                                    have q112 : 0 < (t108.length : Int) := of_decide_eq_true (by first | (with_reducible assumption) | assumption)
                                    obtain ⟨ad112, e112, hx112_0⟩ := Kd.at_int (Kd.R_reads' HO110.out).2.2 0 p112 q112
                                    cases e112
                                    have qi112 : (0 < t108.length) = True := eq_true (by omega)
                                    (try rw [show ((0 : Int)).toNat = 0 from rfl] at hx112_0)
                                    (try rw [Addr.add_zero'] at hx112_0)
                                    replace p112 := eq_true p112
                                    replace q112 := eq_true q112
                                    have p113 : 0 ≤ (t111 : Int) := of_decide_eq_true (by first | (with_reducible assumption) | assumption)
                                    have q113 : t111 < (t102.length : Int) := of_decide_eq_true (by first | (with_reducible assumption) | assumption)
                                    obtain ⟨ad113, e113, hx113_0⟩ := Kd.at_int (Kd.R_reads' HO104.out).2.2 t111 p113 q113
                                    cases e113
                                    replace p113 := eq_true p113
                                    replace q113 := eq_true q113
                                    have p114 : 0 ≤ ((ji27) : Int) := of_decide_eq_true (by first | (with_reducible assumption) | assumption)
                                    have q114 : (ji27) < (t108.length : Int) := of_decide_eq_true (by first | (with_reducible assumption) | assumption)
                                    obtain ⟨ad114, e114, hx114_0⟩ := Kd.at_int (Kd.R_reads' HO110.out).2.2 (ji27) p114 q114
                                    obtain rfl : ad112 = ad114 := (by injection e114)
                                    replace p114 := eq_true p114
                                    replace q114 := eq_true q114
                                    have p115 : 0 ≤ ((ji30) : Int) := of_decide_eq_true (by first | (with_reducible assumption) | assumption)
                                    have q115 : (ji30) < (t102.length : Int) := of_decide_eq_true (by first | (with_reducible assumption) | assumption)
                                    obtain ⟨ad115, e115, hx115_0⟩ := Kd.at_int (Kd.R_reads' HO104.out).2.2 (ji30) p115 q115
                                    obtain rfl : ad113 = ad115 := (by injection e115)
                                    replace p115 := eq_true p115
                                    replace q115 := eq_true q115
                                    have p118 : 0 ≤ ((ji43) : Int) := of_decide_eq_true (by first | (with_reducible assumption) | assumption)
                                    have q118 : (ji43) < (t102.length : Int) := of_decide_eq_true (by first | (with_reducible assumption) | assumption)
                                    obtain ⟨ad118, e118, hx118_0⟩ := Kd.at_int (Kd.R_reads' HO104.out).2.2 (ji43) p118 q118
                                    obtain rfl : ad113 = ad118 := (by injection e118)
                                    replace p118 := eq_true p118
                                    replace q118 := eq_true q118
                                    go_wp2
                                    repeat (go_quiet (fail); try go_wp2)
                                    go_meet
                                    case rel => exact ⟨_, (decide ((rd t102 (ji43)) ≤ a2)), (by first | rfl | (simp; done) | (simp only [← hji43] <;> (first | rfl | simp)) | (simp [*]; done)), H', ⟨by first | omega | exact Nat.le_refl _⟩, ⟨by (with_reducible repeat (first | apply Kd.R_alloc | apply Kd.R_drewN | apply Kd.R_drew)); exact Kd.R_mono HO104.out (fun _ hk => hk.2)⟩, ⟨by (with_reducible repeat (first | apply Kd.V_alloc | apply Kd.V_drewN | apply Kd.V_drew)); exact HO107.out⟩, ⟨by (with_reducible repeat (first | apply Kd.R_alloc | apply Kd.R_drewN | apply Kd.R_drew)); exact Kd.R_mono HO110.out (fun _ hk => hk.2)⟩, ⟨by repeat (first | (with_reducible first | exact HB.out | apply below_alloc | apply pw_below_drewN | apply below_drew1) | exact HB.out)⟩⟩
                                  · rw [if_neg c44] at H
                                    exact absurd H (by simp)
                                · rw [if_neg c42] at H
                                  have c42b0 : decide ((wrap64 (t111 + 1)) < (t102.length : Int)) = false := decide_eq_false c42
                                  clear c42
                                  have H' := Aside0.mk H
                                  clear H
                                  obtain ⟨Ao46, co46, eo46⟩ := Kd.R_slice HO110.out
                                  subst eo46
                                  have p112 : 0 ≤ (0 : Int) := (by omega)
                                  have q112 : 0 < (t108.length : Int) := of_decide_eq_true (by first | (with_reducible assumption) | assumption)
                                  obtain ⟨ad112, e112, hx112_0⟩ := Kd.at_int (Kd.R_reads' HO110.out).2.2 0 p112 q112
                                  cases e112
                                  have qi112 : (0 < t108.length) = True := eq_true (by omega)
                                  (try rw [show ((0 : Int)).toNat = 0 from rfl] at hx112_0)
                                  (try rw [Addr.add_zero'] at hx112_0)
                                  replace p112 := eq_true p112
                                  replace q112 := eq_true q112
                                  have p113 : 0 ≤ (t111 : Int) := of_decide_eq_true (by first | (with_reducible assumption) | assumption)
                                  have q113 : t111 < (t102.length : Int) := of_decide_eq_true (by first | (with_reducible assumption) | assumption)
                                  obtain ⟨ad113, e113, hx113_0⟩ := Kd.at_int (Kd.R_reads' HO104.out).2.2 t111 p113 q113
                                  cases e113
                                  replace p113 := eq_true p113
                                  replace q113 := eq_true q113
                                  have p114 : 0 ≤ ((ji27) : Int) := of_decide_eq_true (by first | (with_reducible assumption) | assumption)
                                  have q114 : (ji27) < (t108.length : Int) := of_decide_eq_true (by first | (with_reducible assumption) | assumption)
                                  obtain ⟨ad114, e114, hx114_0⟩ := Kd.at_int (Kd.R_reads' HO110.out).2.2 (ji27) p114 q114
                                  obtain rfl : ad112 = ad114 := (by injection e114)
                                  replace p114 := eq_true p114
                                  replace q114 := eq_true q114
                                  have p115 : 0 ≤ ((ji30) : Int) := of_decide_eq_true (by first | (with_reducible assumption) | assumption)
                                  have q115 : (ji30) < (t102.length : Int) := of_decide_eq_true (by first | (with_reducible assumption) | assumption)
                                  obtain ⟨ad115, e115, hx115_0⟩ := Kd.at_int (Kd.R_reads' HO104.out).2.2 (ji30) p115 q115
                                  obtain rfl : ad113 = ad115 := (by injection e115)
                                  replace p115 := eq_true p115
                                  replace q115 := eq_true q115
                                  go_wp2
                                  repeat (go_quiet (fail); try go_wp2)
                                  go_meet
                                  case rel => exact ⟨_, (false), (by first | rfl | (simp; done) | (simp [*]; done)), H', ⟨by first | omega | exact Nat.le_refl _⟩, ⟨by (with_reducible repeat (first | apply Kd.R_alloc | apply Kd.R_drewN | apply Kd.R_drew)); exact Kd.R_mono HO104.out (fun _ hk => hk.2)⟩, ⟨by (with_reducible repeat (first | apply Kd.V_alloc | apply Kd.V_drewN | apply Kd.V_drew)); exact HO107.out⟩, ⟨by (with_reducible repeat (first | apply Kd.R_alloc | apply Kd.R_drewN | apply Kd.R_drew)); exact Kd.R_mono HO110.out (fun _ hk => hk.2)⟩, ⟨by repeat (first | (with_reducible first | exact HB.out | apply below_alloc | apply pw_below_drewN | apply below_drew1) | exact HB.out)⟩⟩
                            · rw [if_neg c33] at H
                              have c33b0 : ((rd t108 (ji27)) == (rd t102 (ji30))) = false := beq_eq_false_iff_ne.mpr c33
                              have c33b1 : ((rd t108 (ji27)) != (rd t102 (ji30))) = true := bne_iff_ne.mpr c33
                              exact absurd (H.trans (congrArg some hr_.out)) (jno_ _ _ _ _ _)
                          · rw [if_neg c32] at H
                            exact absurd H (by simp)
                        · rw [if_neg c31] at H
                          exact absurd H (by simp)
                      · rw [if_neg c29] at H
                        exact absurd H (by simp)
                    · rw [if_neg c28] at H
                      exact absurd H (by simp)
                  · rw [if_neg c26] at H
                    have c26b0 : ((rd t108 0) == (rd t102 t111)) = false := beq_eq_false_iff_ne.mpr c26
                    have c26b1 : ((rd t108 0) != (rd t102 t111)) = true := bne_iff_ne.mpr c26
                    exact absurd (H.trans (congrArg some hr_.out)) (jno_ _ _ _ _ _)
                · rw [if_neg c25] at H
                  exact absurd H (by simp)
              · rw [if_neg c24] at H
                exact absurd H (by simp)
            · rw [if_neg c23] at H
              exact absurd H (by simp)
    · replace c16 := Bool.eq_false_iff.mpr c16
      subst c16
      have H1 : (epitomelaw18_KeepBounds.j0 k t102 t105 t108 t111 true) = some r := by rw [if_neg (show ¬ (false = true) by decide)] at H; exact H
      clear H
      have H := H1
      clear H1
      exact absurd (H.trans (congrArg some hr_.out)) (jno_ _ _ _ _ _)
  case rest =>
    clear HC9
    try clear c1
    try clear p1
    try clear q1
    try clear hx1
    try clear qi1
    try clear c2
    try clear p2
    try clear c3
    try clear c4
    try clear p6
    try clear p11
    try clear q11
    try clear hx11
    try clear qi11
    try clear c16
    try clear c17
    try clear c17b0
    try clear c17b1
    try clear c17b2
    try clear c19
    try clear c19b0
    try clear c21
    try clear c21b0
    try clear c23
    try clear c23b0
    try clear c23b1
    try clear c24
    try clear c24b0
    try clear c25
    try clear c25b0
    try clear c26
    try clear c26b0
    try clear c26b1
    try clear c28
    try clear c28b0
    try clear c29
    try clear c29b0
    try clear c31
    try clear c31b0
    try clear c32
    try clear c32b0
    try clear c33
    try clear c33b0
    try clear c33b1
    try clear c34
    try clear c34b0
    try clear c35
    try clear c35b0
    try clear c37
    try clear c37b0
    try clear c39
    try clear c39b0
    try clear c42
    try clear c42b0
    try clear c44
    try clear c44b0
    try clear hx112_0
    try clear hx113_0
    try clear hx114_0
    try clear hx115_0
    try clear hx116_0
    try clear hx117_0
    try clear hx118_0
    try clear p112
    try clear p113
    try clear p114
    try clear p115
    try clear p116
    try clear p117
    try clear p118
    try clear q112
    try clear q113
    try clear q114
    try clear q115
    try clear q116
    try clear q117
    try clear q118
    obtain ⟨kq, x95_8, rfl, HA, HJ8, HO_8, HO_9, HO_10, HB⟩ := hcut
    cases kq with
    | zero => exact absurd HA.out (by simp [epitomelaw18_KeepBounds.j0])
    | succ kj8 =>
      have H := HA.out
      clear HA
      simp only [epitomelaw18_KeepBounds.j0] at H
      by_cases c49 : x95_8 = true
      · subst c49
        have H1 : (some false) = some r := by rw [if_pos rfl] at H; exact H
        clear H
        have H := H1
        clear H1
        exact Bool.noConfusion ((Option.some.inj H).trans hr_.out)
      · replace c49 := Bool.eq_false_iff.mpr c49
        subst c49
        have H1 : (epitomelaw18_KeepBounds.l0 kj8 t102 t105 t108 t111 1) = some r := by rw [if_neg (show ¬ (false = true) by decide)] at H; exact H
        clear H
        have H := H1
        clear H1
        have H' := Aside0.mk H
        clear H
        go_wp2
        repeat (go_quiet (fail); try go_wp2)
        go_loopg [12] kj8 (fun kq v12 w' => ∃ (x12_2 : Int), v12 = .int .i64 x12_2 ∧ Aside0 (epitomelaw18_KeepBounds.l0 kq t102 t105 t108 t111 x12_2 = some r) ∧ Aside0 (kq ≤ kj8) ∧ Aside0 (Kd.R (Kd.int .i64) 3 w' w.heap.size (fun k_ => some k_ ≠ (v109 : Value).ownBlock) (.slice Ao13 t102.length co13) t102) ∧ Aside0 (Kd.V (Kd.int .i64) 3 w' w.heap.size (fun k_ => some k_ ≠ ((.slice Ao13 t102.length co13) : Value).ownBlock ∧ some k_ ≠ (v109 : Value).ownBlock) (.slice Ao14 t105.length co14) t105) ∧ Aside0 (Kd.R (Kd.int .i64) 3 w' w.heap.size (fun k_ => some k_ ≠ ((.slice Ao13 t102.length co13) : Value).ownBlock) v109 t108) ∧ Aside0 (Below w.heap.size w w'))
        case atStart => exact ⟨(1), (by first | rfl | (simp; done) | (simp [*]; done)), H', ⟨Nat.le_refl _⟩, ⟨by (with_reducible repeat (first | apply Kd.R_alloc | apply Kd.R_drewN | apply Kd.R_drew)); exact HO_8.out⟩, ⟨by (with_reducible repeat (first | apply Kd.V_alloc | apply Kd.V_drewN | apply Kd.V_drew)); exact HO_9.out⟩, ⟨by (with_reducible repeat (first | apply Kd.R_alloc | apply Kd.R_drewN | apply Kd.R_drew)); exact HO_10.out⟩, ⟨by repeat (first | (with_reducible first | exact HB.out | apply below_alloc | apply pw_below_drewN | apply below_drew1) | exact HB.out)⟩⟩
        case round =>
          clear H'
          try clear c1
          try clear p1
          try clear q1
          try clear hx1
          try clear qi1
          try clear c2
          try clear p2
          try clear c3
          try clear c4
          try clear p6
          try clear p11
          try clear q11
          try clear hx11
          try clear qi11
          try clear c16
          try clear c17
          try clear c17b0
          try clear c17b1
          try clear c17b2
          try clear c19
          try clear c19b0
          try clear c21
          try clear c21b0
          try clear c23
          try clear c23b0
          try clear c23b1
          try clear c24
          try clear c24b0
          try clear c25
          try clear c25b0
          try clear c26
          try clear c26b0
          try clear c26b1
          try clear c28
          try clear c28b0
          try clear c29
          try clear c29b0
          try clear c31
          try clear c31b0
          try clear c32
          try clear c32b0
          try clear c33
          try clear c33b0
          try clear c33b1
          try clear c34
          try clear c34b0
          try clear c35
          try clear c35b0
          try clear c37
          try clear c37b0
          try clear c39
          try clear c39b0
          try clear c42
          try clear c42b0
          try clear c44
          try clear c44b0
          try clear c49
          try clear hx112_0
          try clear hx113_0
          try clear hx114_0
          try clear hx115_0
          try clear hx116_0
          try clear hx117_0
          try clear hx118_0
          try clear p1
          try clear p11
          try clear p112
          try clear p113
          try clear p114
          try clear p115
          try clear p116
          try clear p117
          try clear p118
          try clear p2
          try clear p6
          try clear q1
          try clear q11
          try clear q112
          try clear q113
          try clear q114
          try clear q115
          try clear q116
          try clear q117
          try clear q118
          obtain ⟨x12_2, rfl, HA, HK2, HO_8, HO_9, HO_10, HB⟩ := hrel
          cases gk with
          | zero => exact absurd HA.out (by simp [epitomelaw18_KeepBounds.l0])
          | succ k2 =>
            have H := HA.out
            clear HA
            simp only [epitomelaw18_KeepBounds.l0] at H
            by_cases c50 : x12_2 < (t108.length : Int)
            · rw [if_pos c50] at H
              have c50b0 : decide (x12_2 < (t108.length : Int)) = true := decide_eq_true c50
              clear c50
              obtain ⟨ji51, hji51⟩ : ∃ j_ : Int, (wrap64 (x12_2 - 1)) = j_ := ⟨_, rfl⟩
              replace H : (if 0 ≤ (ji51) then (if (ji51) < (t108.length : Int) then (if 0 ≤ x12_2 then (if (rd t108 (ji51)) ≥ (rd t108 x12_2) then (some false) else (if x12_2 < (wrap64 ((t108.length : Int) - 1)) then ((epitomelaw18_in.f k2 t105 (rd t108 x12_2)).bind fun t122 => (if t122 = true then (epitomelaw18_KeepBounds.l0 k2 t102 t105 t108 t111 (wrap64 (x12_2 + 1))) else (some false))) else (epitomelaw18_KeepBounds.l0 k2 t102 t105 t108 t111 (wrap64 (x12_2 + 1))))) else (none)) else (none)) else (none)) = some r := by first | (rw [hji51] at H; exact H) | (simp only [hji51] at H ⊢; exact H)
              have hji51w : (IntKind.i64.wrap (x12_2 - 1)) = ji51 := (i64_w _).trans hji51
              by_cases c52 : 0 ≤ (ji51)
              · rw [if_pos c52] at H
                have c52b0 : decide (0 ≤ (ji51)) = true := decide_eq_true c52
                clear c52
                by_cases c53 : (ji51) < (t108.length : Int)
                · rw [if_pos c53] at H
                  have c53b0 : decide ((ji51) < (t108.length : Int)) = true := decide_eq_true c53
                  clear c53
                  by_cases c54 : 0 ≤ x12_2
                  · rw [if_pos c54] at H
                    have c54b0 : decide (0 ≤ x12_2) = true := decide_eq_true c54
                    clear c54
                    by_cases c55 : (rd t108 (ji51)) ≥ (rd t108 x12_2)
                    · rw [if_pos c55] at H
                      have c55b0 : decide ((rd t108 x12_2) ≤ (rd t108 (ji51))) = true := decide_eq_true c55
                      clear c55
                      exact Bool.noConfusion ((Option.some.inj H).trans hr_.out)
                    · rw [if_neg c55] at H
                      have c55b0 : decide ((rd t108 x12_2) ≤ (rd t108 (ji51))) = false := decide_eq_false c55
                      clear c55
                      by_cases c57 : x12_2 < (wrap64 ((t108.length : Int) - 1))
                      · rw [if_pos c57] at H
                        have c57b0 : decide (x12_2 < (wrap64 ((t108.length : Int) - 1))) = true := decide_eq_true c57
                        clear c57
                        replace H := Option.bind_eq_some_iff.mp H
                        obtain ⟨t122, A580, H⟩ := H
                        replace H : (if t122 = true then (epitomelaw18_KeepBounds.l0 k2 t102 t105 t108 t111 (wrap64 (x12_2 + 1))) else (some false)) = some r := H
                        have A58 := Aside0.mk A580
                        clear A580
                        by_cases c59 : t122 = true
                        · subst c59
                          have H1 : (epitomelaw18_KeepBounds.l0 k2 t102 t105 t108 t111 (wrap64 (x12_2 + 1))) = some r := by rw [if_pos rfl] at H; exact H
                          clear H
                          have H := H1
                          clear H1
                          have H' := Aside0.mk H
                          clear H
                          obtain ⟨Ao60, co60, eo60⟩ := Kd.R_slice HO_10.out
                          subst eo60
                          have p119 : 0 ≤ ((ji51) : Int) := of_decide_eq_true (by first | (with_reducible assumption) | assumption)
                          have q119 : (ji51) < (t108.length : Int) := of_decide_eq_true (by first | (with_reducible assumption) | assumption)
                          obtain ⟨ad119, e119, hx119_0⟩ := Kd.at_int (Kd.R_reads' HO_10.out).2.2 (ji51) p119 q119
                          cases e119
                          replace p119 := eq_true p119
                          replace q119 := eq_true q119
                          have p120 : 0 ≤ (x12_2 : Int) := of_decide_eq_true (by first | (with_reducible assumption) | assumption)
                          have q120 : x12_2 < (t108.length : Int) := of_decide_eq_true (by first | (with_reducible assumption) | assumption)
                          obtain ⟨ad120, e120, hx120_0⟩ := Kd.at_int (Kd.R_reads' HO_10.out).2.2 x12_2 p120 q120
                          obtain rfl : ad119 = ad120 := (by injection e120)
                          replace p120 := eq_true p120
                          replace q120 := eq_true q120
                          have p121 : 0 ≤ (x12_2 : Int) := of_decide_eq_true (by first | (with_reducible assumption) | assumption)
                          have q121 : x12_2 < (t108.length : Int) := of_decide_eq_true (by first | (with_reducible assumption) | assumption)
                          obtain ⟨ad121, e121, hx121_0⟩ := Kd.at_int (Kd.R_reads' HO_10.out).2.2 x12_2 p121 q121
                          obtain rfl : ad119 = ad121 := (by injection e121)
                          replace p121 := eq_true p121
                          replace q121 := eq_true q121
                          go_wp2_with (first | (go_at_call 10; (with_reducible refine (epitomelaw18_in.calls k2 _ _ t105 (rd t108 x12_2) true _ ?side1 ?side2 A58.out).mono ?_); (case side1 => repeat (first | exact (Kd.V_reads' HO_9.out).2.2 | (with_reducible refine Kd.C_alloc ?_ _) | (with_reducible refine Kd.C_drewN ?_ _) | (with_reducible refine Kd.C_drew ?_))); (case side2 => exact (Kd.V_reads' HO_9.out).2.1); rintro e w' ⟨rfl, ⟨nd, rfl⟩⟩; (try first | exact ⟨rfl, _, World.drewN_drewN _ _ _⟩ | exact ⟨rfl, _, Eq.trans (World.drewN_drewN _ _ _) (congrArg (World.drewN _) (Nat.add_assoc _ _ _))⟩)))
                          repeat (go_quiet (first | (go_at_call 10; (with_reducible refine (epitomelaw18_in.calls k2 _ _ t105 (rd t108 x12_2) true _ ?side1 ?side2 A58.out).mono ?_); (case side1 => repeat (first | exact (Kd.V_reads' HO_9.out).2.2 | (with_reducible refine Kd.C_alloc ?_ _) | (with_reducible refine Kd.C_drewN ?_ _) | (with_reducible refine Kd.C_drew ?_))); (case side2 => exact (Kd.V_reads' HO_9.out).2.1); rintro e w' ⟨rfl, ⟨nd, rfl⟩⟩; (try first | exact ⟨rfl, _, World.drewN_drewN _ _ _⟩ | exact ⟨rfl, _, Eq.trans (World.drewN_drewN _ _ _) (congrArg (World.drewN _) (Nat.add_assoc _ _ _))⟩))); try go_wp2_with (first | (go_at_call 10; (with_reducible refine (epitomelaw18_in.calls k2 _ _ t105 (rd t108 x12_2) true _ ?side1 ?side2 A58.out).mono ?_); (case side1 => repeat (first | exact (Kd.V_reads' HO_9.out).2.2 | (with_reducible refine Kd.C_alloc ?_ _) | (with_reducible refine Kd.C_drewN ?_ _) | (with_reducible refine Kd.C_drew ?_))); (case side2 => exact (Kd.V_reads' HO_9.out).2.1); rintro e w' ⟨rfl, ⟨nd, rfl⟩⟩; (try first | exact ⟨rfl, _, World.drewN_drewN _ _ _⟩ | exact ⟨rfl, _, Eq.trans (World.drewN_drewN _ _ _) (congrArg (World.drewN _) (Nat.add_assoc _ _ _))⟩))))
                          go_roundg k2
                          case measure => have := HJ8.out; have := HK2.out; omega
                          case rel => exact ⟨(wrap64 (x12_2 + 1)), (by first | rfl | (simp; done) | (simp [*]; done)), H', ⟨by have := HJ8.out; have := HK2.out; omega⟩, ⟨by (with_reducible repeat (first | apply Kd.R_alloc | apply Kd.R_drewN | apply Kd.R_drew)); exact HO_8.out⟩, ⟨by (with_reducible repeat (first | apply Kd.V_alloc | apply Kd.V_drewN | apply Kd.V_drew)); exact HO_9.out⟩, ⟨by (with_reducible repeat (first | apply Kd.R_alloc | apply Kd.R_drewN | apply Kd.R_drew)); exact HO_10.out⟩, ⟨by repeat (first | (with_reducible first | exact HB.out | apply below_alloc | apply pw_below_drewN | apply below_drew1) | exact HB.out)⟩⟩
                        · replace c59 := Bool.eq_false_iff.mpr c59
                          subst c59
                          have H1 : (some false) = some r := by rw [if_neg (show ¬ (false = true) by decide)] at H; exact H
                          clear H
                          have H := H1
                          clear H1
                          exact Bool.noConfusion ((Option.some.inj H).trans hr_.out)
                      · rw [if_neg c57] at H
                        have c57b0 : decide (x12_2 < (wrap64 ((t108.length : Int) - 1))) = false := decide_eq_false c57
                        clear c57
                        have H' := Aside0.mk H
                        clear H
                        obtain ⟨Ao62, co62, eo62⟩ := Kd.R_slice HO_10.out
                        subst eo62
                        have p119 : 0 ≤ ((ji51) : Int) := of_decide_eq_true (by first | (with_reducible assumption) | assumption)
                        have q119 : (ji51) < (t108.length : Int) := of_decide_eq_true (by first | (with_reducible assumption) | assumption)
                        obtain ⟨ad119, e119, hx119_0⟩ := Kd.at_int (Kd.R_reads' HO_10.out).2.2 (ji51) p119 q119
                        cases e119
                        replace p119 := eq_true p119
                        replace q119 := eq_true q119
                        have p120 : 0 ≤ (x12_2 : Int) := of_decide_eq_true (by first | (with_reducible assumption) | assumption)
                        have q120 : x12_2 < (t108.length : Int) := of_decide_eq_true (by first | (with_reducible assumption) | assumption)
                        obtain ⟨ad120, e120, hx120_0⟩ := Kd.at_int (Kd.R_reads' HO_10.out).2.2 x12_2 p120 q120
                        obtain rfl : ad119 = ad120 := (by injection e120)
                        replace p120 := eq_true p120
                        replace q120 := eq_true q120
                        go_wp2
                        repeat (go_quiet (fail); try go_wp2)
                        go_roundg k2
                        case measure => have := HJ8.out; have := HK2.out; omega
                        case rel => exact ⟨(wrap64 (x12_2 + 1)), (by first | rfl | (simp; done) | (simp [*]; done)), H', ⟨by have := HJ8.out; have := HK2.out; omega⟩, ⟨by (with_reducible repeat (first | apply Kd.R_alloc | apply Kd.R_drewN | apply Kd.R_drew)); exact HO_8.out⟩, ⟨by (with_reducible repeat (first | apply Kd.V_alloc | apply Kd.V_drewN | apply Kd.V_drew)); exact HO_9.out⟩, ⟨by (with_reducible repeat (first | apply Kd.R_alloc | apply Kd.R_drewN | apply Kd.R_drew)); exact HO_10.out⟩, ⟨by repeat (first | (with_reducible first | exact HB.out | apply below_alloc | apply pw_below_drewN | apply below_drew1) | exact HB.out)⟩⟩
                  · rw [if_neg c54] at H
                    exact absurd H (by simp)
                · rw [if_neg c53] at H
                  exact absurd H (by simp)
              · rw [if_neg c52] at H
                exact absurd H (by simp)
            · rw [if_neg c50] at H
              have c50b0 : decide (x12_2 < (t108.length : Int)) = false := decide_eq_false c50
              clear c50
              have H' := Aside0.mk H
              clear H
              obtain ⟨Ao63, co63, eo63⟩ := Kd.R_slice HO_10.out
              subst eo63
              go_wp2
              repeat (go_quiet (fail); try go_wp2)
              go_loopg [13] k2 (fun kq v13 w' => ∃ (x13_3 : Int), v13 = .int .i64 x13_3 ∧ Aside0 (epitomelaw18_KeepBounds.l1 kq t102 t105 t108 t111 x13_3 = some r) ∧ Aside0 (kq ≤ k2) ∧ Aside0 (Kd.R (Kd.int .i64) 3 w' w.heap.size (fun k_ => some k_ ≠ ((.slice Ao63 t108.length co63) : Value).ownBlock) (.slice Ao13 t102.length co13) t102) ∧ Aside0 (Kd.V (Kd.int .i64) 3 w' w.heap.size (fun k_ => some k_ ≠ ((.slice Ao13 t102.length co13) : Value).ownBlock ∧ some k_ ≠ ((.slice Ao63 t108.length co63) : Value).ownBlock) (.slice Ao14 t105.length co14) t105) ∧ Aside0 (Kd.R (Kd.int .i64) 3 w' w.heap.size (fun k_ => some k_ ≠ ((.slice Ao13 t102.length co13) : Value).ownBlock) (.slice Ao63 t108.length co63) t108) ∧ Aside0 (Below w.heap.size w w'))
              case atStart => exact ⟨(0), (by first | rfl | (simp; done) | (simp [*]; done)), H', ⟨Nat.le_refl _⟩, ⟨by (with_reducible repeat (first | apply Kd.R_alloc | apply Kd.R_drewN | apply Kd.R_drew)); exact HO_8.out⟩, ⟨by (with_reducible repeat (first | apply Kd.V_alloc | apply Kd.V_drewN | apply Kd.V_drew)); exact HO_9.out⟩, ⟨by (with_reducible repeat (first | apply Kd.R_alloc | apply Kd.R_drewN | apply Kd.R_drew)); exact HO_10.out⟩, ⟨by repeat (first | (with_reducible first | exact HB.out | apply below_alloc | apply pw_below_drewN | apply below_drew1) | exact HB.out)⟩⟩
              case round =>
                clear H'
                try clear c1
                try clear p1
                try clear q1
                try clear hx1
                try clear qi1
                try clear c2
                try clear p2
                try clear c3
                try clear c4
                try clear c5
                try clear p6
                try clear p11
                try clear q11
                try clear hx11
                try clear qi11
                try clear p12
                try clear q12
                try clear hx12
                try clear c16
                try clear c17
                try clear c17b0
                try clear c17b1
                try clear c17b2
                try clear c19
                try clear c19b0
                try clear c21
                try clear c21b0
                try clear c23
                try clear c23b0
                try clear c23b1
                try clear c24
                try clear c24b0
                try clear c25
                try clear c25b0
                try clear c26
                try clear c26b0
                try clear c26b1
                try clear c28
                try clear c28b0
                try clear c29
                try clear c29b0
                try clear c31
                try clear c31b0
                try clear c32
                try clear c32b0
                try clear c33
                try clear c33b0
                try clear c33b1
                try clear c34
                try clear c34b0
                try clear c35
                try clear c35b0
                try clear c37
                try clear c37b0
                try clear c39
                try clear c39b0
                try clear c42
                try clear c42b0
                try clear c44
                try clear c44b0
                try clear c49
                try clear c50
                try clear c50b0
                try clear c52
                try clear c52b0
                try clear c53
                try clear c53b0
                try clear c54
                try clear c54b0
                try clear c55
                try clear c55b0
                try clear c57
                try clear c57b0
                try clear c59
                try clear hx112_0
                try clear hx113_0
                try clear hx114_0
                try clear hx115_0
                try clear hx116_0
                try clear hx117_0
                try clear hx118_0
                try clear hx119_0
                try clear hx120_0
                try clear hx121_0
                try clear p1
                try clear p11
                try clear p112
                try clear p113
                try clear p114
                try clear p115
                try clear p116
                try clear p117
                try clear p118
                try clear p119
                try clear p120
                try clear p121
                try clear p2
                try clear p6
                try clear q1
                try clear q11
                try clear q112
                try clear q113
                try clear q114
                try clear q115
                try clear q116
                try clear q117
                try clear q118
                try clear q119
                try clear q120
                try clear q121
                obtain ⟨x13_3, rfl, HA, HK3, HO_8, HO_9, HO_10, HB⟩ := hrel
                cases gk with
                | zero => exact absurd HA.out (by simp [epitomelaw18_KeepBounds.l1])
                | succ k3 =>
                  have H := HA.out
                  clear HA
                  simp only [epitomelaw18_KeepBounds.l1] at H
                  by_cases c64 : x13_3 < (t102.length : Int)
                  · rw [if_pos c64] at H
                    have c64b0 : decide (x13_3 < (t102.length : Int)) = true := decide_eq_true c64
                    clear c64
                    by_cases c65 : 0 ≤ x13_3
                    · rw [if_pos c65] at H
                      have c65b0 : decide (0 ≤ x13_3) = true := decide_eq_true c65
                      clear c65
                      replace H := Option.bind_eq_some_iff.mp H
                      obtain ⟨t124, A660, H⟩ := H
                      replace H : (if x13_3 = t111 then (if (t124 != true) = true then (some false) else (epitomelaw18_KeepBounds.l1 k3 t102 t105 t108 t111 (wrap64 (x13_3 + 1)))) else (if x13_3 = (wrap64 ((t102.length : Int) - 1)) then (if (t124 != true) = true then (some false) else (epitomelaw18_KeepBounds.l1 k3 t102 t105 t108 t111 (wrap64 (x13_3 + 1)))) else (if x13_3 > t111 then ((epitomelaw18_in.f k3 t105 (rd t102 x13_3)).bind fun t126 => (if (t124 != t126) = true then (some false) else (epitomelaw18_KeepBounds.l1 k3 t102 t105 t108 t111 (wrap64 (x13_3 + 1))))) else (if (t124 != false) = true then (some false) else (epitomelaw18_KeepBounds.l1 k3 t102 t105 t108 t111 (wrap64 (x13_3 + 1))))))) = some r := H
                      have A66 := Aside0.mk A660
                      clear A660
                      by_cases c67 : x13_3 = t111
                      · rw [if_pos c67] at H
                        have c67b0 : (x13_3 == t111) = true := beq_iff_eq.mpr c67
                        have c67b1 : (x13_3 != t111) = false := bne_eq_false_iff_eq.mpr c67
                        clear c67
                        by_cases c68 : (t124 != true) = true
                        · rw [if_pos c68] at H
                          have c68b0 : (t124 != true) = true := c68
                          (try (have c68b1 : decide (t124 = true) = false := by simpa using c68))
                          (try (have c68b2 : (t124 == true) = false := by simpa using c68))
                          (try (have c68b3 : ¬ (t124 = true) := by simpa using c68))
                          (try (have c68b4 : t124 = true := neb_l (a := t124) (b := true) (v := false) (by first | exact c68 | simpa using c68) (by assumption)))
                          (try (have c68b5 : t124 = false := neb_l (a := t124) (b := true) (v := true) (by first | exact c68 | simpa using c68) (by assumption)))
                          (try (have c68b6 : true = true := neb_r (a := t124) (b := true) (v := false) (by first | exact c68 | simpa using c68) (by assumption)))
                          (try (have c68b7 : true = false := neb_r (a := t124) (b := true) (v := true) (by first | exact c68 | simpa using c68) (by assumption)))
                          clear c68
                          exact Bool.noConfusion ((Option.some.inj H).trans hr_.out)
                        · rw [if_neg c68] at H
                          have c68b0 : (t124 != true) = false := by simpa using c68
                          (try (have c68b1 : decide (t124 = true) = true := by simpa using c68))
                          (try (have c68b2 : (t124 == true) = true := by simpa using c68))
                          (try (have c68b3 : t124 = true := eqb_l (a := t124) (b := true) (v := true) (by first | exact c68 | simpa using c68) (by assumption)))
                          (try (have c68b4 : t124 = false := eqb_l (a := t124) (b := true) (v := false) (by first | exact c68 | simpa using c68) (by assumption)))
                          (try (have c68b5 : true = true := eqb_r (a := t124) (b := true) (v := true) (by first | exact c68 | simpa using c68) (by assumption)))
                          (try (have c68b6 : true = false := eqb_r (a := t124) (b := true) (v := false) (by first | exact c68 | simpa using c68) (by assumption)))
                          clear c68
                          have H' := Aside0.mk H
                          clear H
                          have p123 : 0 ≤ (x13_3 : Int) := of_decide_eq_true (by first | (with_reducible assumption) | assumption)
                          have q123 : x13_3 < (t102.length : Int) := of_decide_eq_true (by first | (with_reducible assumption) | assumption)
                          obtain ⟨ad123, e123, hx123_0⟩ := Kd.at_int (Kd.R_reads' HO_8.out).2.2 x13_3 p123 q123
                          cases e123
                          replace p123 := eq_true p123
                          replace q123 := eq_true q123
                          go_wp2_with (first | (go_at_call 10; (with_reducible refine (epitomelaw18_in.calls k3 _ _ t108 (rd t102 x13_3) t124 _ ?side1 ?side2 A66.out).mono ?_); (case side1 => repeat (first | exact (Kd.R_reads' HO_10.out).2.2 | (with_reducible refine Kd.C_alloc ?_ _) | (with_reducible refine Kd.C_drewN ?_ _) | (with_reducible refine Kd.C_drew ?_))); (case side2 => exact (Kd.R_reads' HO_10.out).2.1); rintro e w' ⟨rfl, ⟨nd, rfl⟩⟩; (try first | exact ⟨rfl, _, World.drewN_drewN _ _ _⟩ | exact ⟨rfl, _, Eq.trans (World.drewN_drewN _ _ _) (congrArg (World.drewN _) (Nat.add_assoc _ _ _))⟩)))
                          repeat (go_quiet (first | (go_at_call 10; (with_reducible refine (epitomelaw18_in.calls k3 _ _ t108 (rd t102 x13_3) t124 _ ?side1 ?side2 A66.out).mono ?_); (case side1 => repeat (first | exact (Kd.R_reads' HO_10.out).2.2 | (with_reducible refine Kd.C_alloc ?_ _) | (with_reducible refine Kd.C_drewN ?_ _) | (with_reducible refine Kd.C_drew ?_))); (case side2 => exact (Kd.R_reads' HO_10.out).2.1); rintro e w' ⟨rfl, ⟨nd, rfl⟩⟩; (try first | exact ⟨rfl, _, World.drewN_drewN _ _ _⟩ | exact ⟨rfl, _, Eq.trans (World.drewN_drewN _ _ _) (congrArg (World.drewN _) (Nat.add_assoc _ _ _))⟩))); try go_wp2_with (first | (go_at_call 10; (with_reducible refine (epitomelaw18_in.calls k3 _ _ t108 (rd t102 x13_3) t124 _ ?side1 ?side2 A66.out).mono ?_); (case side1 => repeat (first | exact (Kd.R_reads' HO_10.out).2.2 | (with_reducible refine Kd.C_alloc ?_ _) | (with_reducible refine Kd.C_drewN ?_ _) | (with_reducible refine Kd.C_drew ?_))); (case side2 => exact (Kd.R_reads' HO_10.out).2.1); rintro e w' ⟨rfl, ⟨nd, rfl⟩⟩; (try first | exact ⟨rfl, _, World.drewN_drewN _ _ _⟩ | exact ⟨rfl, _, Eq.trans (World.drewN_drewN _ _ _) (congrArg (World.drewN _) (Nat.add_assoc _ _ _))⟩))))
                          go_roundg k3
                          case measure => have := HJ8.out; have := HK2.out; have := HK3.out; omega
                          case rel => exact ⟨(wrap64 (x13_3 + 1)), (by first | rfl | (simp; done) | (simp [*]; done)), H', ⟨by have := HJ8.out; have := HK2.out; have := HK3.out; omega⟩, ⟨by (with_reducible repeat (first | apply Kd.R_alloc | apply Kd.R_drewN | apply Kd.R_drew)); exact HO_8.out⟩, ⟨by (with_reducible repeat (first | apply Kd.V_alloc | apply Kd.V_drewN | apply Kd.V_drew)); exact HO_9.out⟩, ⟨by (with_reducible repeat (first | apply Kd.R_alloc | apply Kd.R_drewN | apply Kd.R_drew)); exact HO_10.out⟩, ⟨by repeat (first | (with_reducible first | exact HB.out | apply below_alloc | apply pw_below_drewN | apply below_drew1) | exact HB.out)⟩⟩
                      · rw [if_neg c67] at H
                        have c67b0 : (x13_3 == t111) = false := beq_eq_false_iff_ne.mpr c67
                        have c67b1 : (x13_3 != t111) = true := bne_iff_ne.mpr c67
                        by_cases c69 : x13_3 = (wrap64 ((t102.length : Int) - 1))
                        · rw [if_pos c69] at H
                          have c69b0 : (x13_3 == (wrap64 ((t102.length : Int) - 1))) = true := beq_iff_eq.mpr c69
                          have c69b1 : (x13_3 != (wrap64 ((t102.length : Int) - 1))) = false := bne_eq_false_iff_eq.mpr c69
                          clear c69
                          by_cases c70 : (t124 != true) = true
                          · rw [if_pos c70] at H
                            have c70b0 : (t124 != true) = true := c70
                            (try (have c70b1 : decide (t124 = true) = false := by simpa using c70))
                            (try (have c70b2 : (t124 == true) = false := by simpa using c70))
                            (try (have c70b3 : ¬ (t124 = true) := by simpa using c70))
                            (try (have c70b4 : t124 = true := neb_l (a := t124) (b := true) (v := false) (by first | exact c70 | simpa using c70) (by assumption)))
                            (try (have c70b5 : t124 = false := neb_l (a := t124) (b := true) (v := true) (by first | exact c70 | simpa using c70) (by assumption)))
                            (try (have c70b6 : true = true := neb_r (a := t124) (b := true) (v := false) (by first | exact c70 | simpa using c70) (by assumption)))
                            (try (have c70b7 : true = false := neb_r (a := t124) (b := true) (v := true) (by first | exact c70 | simpa using c70) (by assumption)))
                            clear c70
                            exact Bool.noConfusion ((Option.some.inj H).trans hr_.out)
                          · rw [if_neg c70] at H
                            have c70b0 : (t124 != true) = false := by simpa using c70
                            (try (have c70b1 : decide (t124 = true) = true := by simpa using c70))
                            (try (have c70b2 : (t124 == true) = true := by simpa using c70))
                            (try (have c70b3 : t124 = true := eqb_l (a := t124) (b := true) (v := true) (by first | exact c70 | simpa using c70) (by assumption)))
                            (try (have c70b4 : t124 = false := eqb_l (a := t124) (b := true) (v := false) (by first | exact c70 | simpa using c70) (by assumption)))
                            (try (have c70b5 : true = true := eqb_r (a := t124) (b := true) (v := true) (by first | exact c70 | simpa using c70) (by assumption)))
                            (try (have c70b6 : true = false := eqb_r (a := t124) (b := true) (v := false) (by first | exact c70 | simpa using c70) (by assumption)))
                            clear c70
                            have H' := Aside0.mk H
                            clear H
                            have p123 : 0 ≤ (x13_3 : Int) := of_decide_eq_true (by first | (with_reducible assumption) | assumption)
                            have q123 : x13_3 < (t102.length : Int) := of_decide_eq_true (by first | (with_reducible assumption) | assumption)
                            obtain ⟨ad123, e123, hx123_0⟩ := Kd.at_int (Kd.R_reads' HO_8.out).2.2 x13_3 p123 q123
                            cases e123
                            replace p123 := eq_true p123
                            replace q123 := eq_true q123
                            go_wp2_with (first | (go_at_call 10; (with_reducible refine (epitomelaw18_in.calls k3 _ _ t108 (rd t102 x13_3) t124 _ ?side1 ?side2 A66.out).mono ?_); (case side1 => repeat (first | exact (Kd.R_reads' HO_10.out).2.2 | (with_reducible refine Kd.C_alloc ?_ _) | (with_reducible refine Kd.C_drewN ?_ _) | (with_reducible refine Kd.C_drew ?_))); (case side2 => exact (Kd.R_reads' HO_10.out).2.1); rintro e w' ⟨rfl, ⟨nd, rfl⟩⟩; (try first | exact ⟨rfl, _, World.drewN_drewN _ _ _⟩ | exact ⟨rfl, _, Eq.trans (World.drewN_drewN _ _ _) (congrArg (World.drewN _) (Nat.add_assoc _ _ _))⟩)))
                            repeat (go_quiet (first | (go_at_call 10; (with_reducible refine (epitomelaw18_in.calls k3 _ _ t108 (rd t102 x13_3) t124 _ ?side1 ?side2 A66.out).mono ?_); (case side1 => repeat (first | exact (Kd.R_reads' HO_10.out).2.2 | (with_reducible refine Kd.C_alloc ?_ _) | (with_reducible refine Kd.C_drewN ?_ _) | (with_reducible refine Kd.C_drew ?_))); (case side2 => exact (Kd.R_reads' HO_10.out).2.1); rintro e w' ⟨rfl, ⟨nd, rfl⟩⟩; (try first | exact ⟨rfl, _, World.drewN_drewN _ _ _⟩ | exact ⟨rfl, _, Eq.trans (World.drewN_drewN _ _ _) (congrArg (World.drewN _) (Nat.add_assoc _ _ _))⟩))); try go_wp2_with (first | (go_at_call 10; (with_reducible refine (epitomelaw18_in.calls k3 _ _ t108 (rd t102 x13_3) t124 _ ?side1 ?side2 A66.out).mono ?_); (case side1 => repeat (first | exact (Kd.R_reads' HO_10.out).2.2 | (with_reducible refine Kd.C_alloc ?_ _) | (with_reducible refine Kd.C_drewN ?_ _) | (with_reducible refine Kd.C_drew ?_))); (case side2 => exact (Kd.R_reads' HO_10.out).2.1); rintro e w' ⟨rfl, ⟨nd, rfl⟩⟩; (try first | exact ⟨rfl, _, World.drewN_drewN _ _ _⟩ | exact ⟨rfl, _, Eq.trans (World.drewN_drewN _ _ _) (congrArg (World.drewN _) (Nat.add_assoc _ _ _))⟩))))
                            go_roundg k3
                            case measure => have := HJ8.out; have := HK2.out; have := HK3.out; omega
                            case rel => exact ⟨(wrap64 (x13_3 + 1)), (by first | rfl | (simp; done) | (simp [*]; done)), H', ⟨by have := HJ8.out; have := HK2.out; have := HK3.out; omega⟩, ⟨by (with_reducible repeat (first | apply Kd.R_alloc | apply Kd.R_drewN | apply Kd.R_drew)); exact HO_8.out⟩, ⟨by (with_reducible repeat (first | apply Kd.V_alloc | apply Kd.V_drewN | apply Kd.V_drew)); exact HO_9.out⟩, ⟨by (with_reducible repeat (first | apply Kd.R_alloc | apply Kd.R_drewN | apply Kd.R_drew)); exact HO_10.out⟩, ⟨by repeat (first | (with_reducible first | exact HB.out | apply below_alloc | apply pw_below_drewN | apply below_drew1) | exact HB.out)⟩⟩
                        · rw [if_neg c69] at H
                          have c69b0 : (x13_3 == (wrap64 ((t102.length : Int) - 1))) = false := beq_eq_false_iff_ne.mpr c69
                          have c69b1 : (x13_3 != (wrap64 ((t102.length : Int) - 1))) = true := bne_iff_ne.mpr c69
                          by_cases c71 : x13_3 > t111
                          · rw [if_pos c71] at H
                            have c71b0 : decide (t111 < x13_3) = true := decide_eq_true c71
                            clear c71
                            replace H := Option.bind_eq_some_iff.mp H
                            obtain ⟨t126, A720, H⟩ := H
                            replace H : (if (t124 != t126) = true then (some false) else (epitomelaw18_KeepBounds.l1 k3 t102 t105 t108 t111 (wrap64 (x13_3 + 1)))) = some r := H
                            have A72 := Aside0.mk A720
                            clear A720
                            by_cases c73 : (t124 != t126) = true
                            · rw [if_pos c73] at H
                              have c73b0 : (t124 != t126) = true := c73
                              (try (have c73b1 : decide (t124 = t126) = false := by simpa using c73))
                              (try (have c73b2 : (t124 == t126) = false := by simpa using c73))
                              (try (have c73b3 : ¬ (t124 = t126) := by simpa using c73))
                              (try (have c73b4 : t124 = true := neb_l (a := t124) (b := t126) (v := false) (by first | exact c73 | simpa using c73) (by assumption)))
                              (try (have c73b5 : t124 = false := neb_l (a := t124) (b := t126) (v := true) (by first | exact c73 | simpa using c73) (by assumption)))
                              (try (have c73b6 : t126 = true := neb_r (a := t124) (b := t126) (v := false) (by first | exact c73 | simpa using c73) (by assumption)))
                              (try (have c73b7 : t126 = false := neb_r (a := t124) (b := t126) (v := true) (by first | exact c73 | simpa using c73) (by assumption)))
                              clear c73
                              exact Bool.noConfusion ((Option.some.inj H).trans hr_.out)
                            · rw [if_neg c73] at H
                              have c73b0 : (t124 != t126) = false := by simpa using c73
                              (try (have c73b1 : decide (t124 = t126) = true := by simpa using c73))
                              (try (have c73b2 : (t124 == t126) = true := by simpa using c73))
                              (try (have c73b3 : t124 = true := eqb_l (a := t124) (b := t126) (v := true) (by first | exact c73 | simpa using c73) (by assumption)))
                              (try (have c73b4 : t124 = false := eqb_l (a := t124) (b := t126) (v := false) (by first | exact c73 | simpa using c73) (by assumption)))
                              (try (have c73b5 : t126 = true := eqb_r (a := t124) (b := t126) (v := true) (by first | exact c73 | simpa using c73) (by assumption)))
                              (try (have c73b6 : t126 = false := eqb_r (a := t124) (b := t126) (v := false) (by first | exact c73 | simpa using c73) (by assumption)))
                              clear c73
                              have H' := Aside0.mk H
                              clear H
                              have p123 : 0 ≤ (x13_3 : Int) := of_decide_eq_true (by first | (with_reducible assumption) | assumption)
                              have q123 : x13_3 < (t102.length : Int) := of_decide_eq_true (by first | (with_reducible assumption) | assumption)
                              obtain ⟨ad123, e123, hx123_0⟩ := Kd.at_int (Kd.R_reads' HO_8.out).2.2 x13_3 p123 q123
                              cases e123
                              replace p123 := eq_true p123
                              replace q123 := eq_true q123
                              go_wp2_with (first | (go_at_call 10; (with_reducible refine (epitomelaw18_in.calls k3 _ _ t108 (rd t102 x13_3) t124 _ ?side1 ?side2 A66.out).mono ?_); (case side1 => repeat (first | exact (Kd.R_reads' HO_10.out).2.2 | (with_reducible refine Kd.C_alloc ?_ _) | (with_reducible refine Kd.C_drewN ?_ _) | (with_reducible refine Kd.C_drew ?_))); (case side2 => exact (Kd.R_reads' HO_10.out).2.1); rintro e w' ⟨rfl, ⟨nd, rfl⟩⟩; (try first | exact ⟨rfl, _, World.drewN_drewN _ _ _⟩ | exact ⟨rfl, _, Eq.trans (World.drewN_drewN _ _ _) (congrArg (World.drewN _) (Nat.add_assoc _ _ _))⟩); have p125 : 0 ≤ (x13_3 : Int) := of_decide_eq_true (by first | (with_reducible assumption) | assumption); have q125 : x13_3 < (t102.length : Int) := of_decide_eq_true (by first | (with_reducible assumption) | assumption); obtain ⟨ad125, e125, hx125_0⟩ := Kd.at_int (Kd.R_reads' HO_8.out).2.2 x13_3 p125 q125; obtain rfl : ad123 = ad125 := (by injection e125); replace p125 := eq_true p125; replace q125 := eq_true q125; (try clear A66)) | (go_at_call 10; (with_reducible refine (epitomelaw18_in.calls k3 _ _ t105 (rd t102 x13_3) t126 _ ?side1 ?side2 A72.out).mono ?_); (case side1 => repeat (first | exact (Kd.V_reads' HO_9.out).2.2 | (with_reducible refine Kd.C_alloc ?_ _) | (with_reducible refine Kd.C_drewN ?_ _) | (with_reducible refine Kd.C_drew ?_))); (case side2 => exact (Kd.V_reads' HO_9.out).2.1); rintro e w' ⟨rfl, ⟨nd, rfl⟩⟩; (try first | exact ⟨rfl, _, World.drewN_drewN _ _ _⟩ | exact ⟨rfl, _, Eq.trans (World.drewN_drewN _ _ _) (congrArg (World.drewN _) (Nat.add_assoc _ _ _))⟩); (try clear A72)))
                              repeat (go_quiet (first | (go_at_call 10; (with_reducible refine (epitomelaw18_in.calls k3 _ _ t108 (rd t102 x13_3) t124 _ ?side1 ?side2 A66.out).mono ?_); (case side1 => repeat (first | exact (Kd.R_reads' HO_10.out).2.2 | (with_reducible refine Kd.C_alloc ?_ _) | (with_reducible refine Kd.C_drewN ?_ _) | (with_reducible refine Kd.C_drew ?_))); (case side2 => exact (Kd.R_reads' HO_10.out).2.1); rintro e w' ⟨rfl, ⟨nd, rfl⟩⟩; (try first | exact ⟨rfl, _, World.drewN_drewN _ _ _⟩ | exact ⟨rfl, _, Eq.trans (World.drewN_drewN _ _ _) (congrArg (World.drewN _) (Nat.add_assoc _ _ _))⟩); have p125 : 0 ≤ (x13_3 : Int) := of_decide_eq_true (by first | (with_reducible assumption) | assumption); have q125 : x13_3 < (t102.length : Int) := of_decide_eq_true (by first | (with_reducible assumption) | assumption); obtain ⟨ad125, e125, hx125_0⟩ := Kd.at_int (Kd.R_reads' HO_8.out).2.2 x13_3 p125 q125; obtain rfl : ad123 = ad125 := (by injection e125); replace p125 := eq_true p125; replace q125 := eq_true q125) | (go_at_call 10; (with_reducible refine (epitomelaw18_in.calls k3 _ _ t105 (rd t102 x13_3) t126 _ ?side1 ?side2 A72.out).mono ?_); (case side1 => repeat (first | exact (Kd.V_reads' HO_9.out).2.2 | (with_reducible refine Kd.C_alloc ?_ _) | (with_reducible refine Kd.C_drewN ?_ _) | (with_reducible refine Kd.C_drew ?_))); (case side2 => exact (Kd.V_reads' HO_9.out).2.1); rintro e w' ⟨rfl, ⟨nd, rfl⟩⟩; (try first | exact ⟨rfl, _, World.drewN_drewN _ _ _⟩ | exact ⟨rfl, _, Eq.trans (World.drewN_drewN _ _ _) (congrArg (World.drewN _) (Nat.add_assoc _ _ _))⟩))); try go_wp2_with (first | (go_at_call 10; (with_reducible refine (epitomelaw18_in.calls k3 _ _ t108 (rd t102 x13_3) t124 _ ?side1 ?side2 A66.out).mono ?_); (case side1 => repeat (first | exact (Kd.R_reads' HO_10.out).2.2 | (with_reducible refine Kd.C_alloc ?_ _) | (with_reducible refine Kd.C_drewN ?_ _) | (with_reducible refine Kd.C_drew ?_))); (case side2 => exact (Kd.R_reads' HO_10.out).2.1); rintro e w' ⟨rfl, ⟨nd, rfl⟩⟩; (try first | exact ⟨rfl, _, World.drewN_drewN _ _ _⟩ | exact ⟨rfl, _, Eq.trans (World.drewN_drewN _ _ _) (congrArg (World.drewN _) (Nat.add_assoc _ _ _))⟩); have p125 : 0 ≤ (x13_3 : Int) := of_decide_eq_true (by first | (with_reducible assumption) | assumption); have q125 : x13_3 < (t102.length : Int) := of_decide_eq_true (by first | (with_reducible assumption) | assumption); obtain ⟨ad125, e125, hx125_0⟩ := Kd.at_int (Kd.R_reads' HO_8.out).2.2 x13_3 p125 q125; obtain rfl : ad123 = ad125 := (by injection e125); replace p125 := eq_true p125; replace q125 := eq_true q125; (try clear A66)) | (go_at_call 10; (with_reducible refine (epitomelaw18_in.calls k3 _ _ t105 (rd t102 x13_3) t126 _ ?side1 ?side2 A72.out).mono ?_); (case side1 => repeat (first | exact (Kd.V_reads' HO_9.out).2.2 | (with_reducible refine Kd.C_alloc ?_ _) | (with_reducible refine Kd.C_drewN ?_ _) | (with_reducible refine Kd.C_drew ?_))); (case side2 => exact (Kd.V_reads' HO_9.out).2.1); rintro e w' ⟨rfl, ⟨nd, rfl⟩⟩; (try first | exact ⟨rfl, _, World.drewN_drewN _ _ _⟩ | exact ⟨rfl, _, Eq.trans (World.drewN_drewN _ _ _) (congrArg (World.drewN _) (Nat.add_assoc _ _ _))⟩); (try clear A72))))
                              go_roundg k3
                              case measure => have := HJ8.out; have := HK2.out; have := HK3.out; omega
                              case rel => exact ⟨(wrap64 (x13_3 + 1)), (by first | rfl | (simp; done) | (simp [*]; done)), H', ⟨by have := HJ8.out; have := HK2.out; have := HK3.out; omega⟩, ⟨by (with_reducible repeat (first | apply Kd.R_alloc | apply Kd.R_drewN | apply Kd.R_drew)); exact HO_8.out⟩, ⟨by (with_reducible repeat (first | apply Kd.V_alloc | apply Kd.V_drewN | apply Kd.V_drew)); exact HO_9.out⟩, ⟨by (with_reducible repeat (first | apply Kd.R_alloc | apply Kd.R_drewN | apply Kd.R_drew)); exact HO_10.out⟩, ⟨by repeat (first | (with_reducible first | exact HB.out | apply below_alloc | apply pw_below_drewN | apply below_drew1) | exact HB.out)⟩⟩
                          · rw [if_neg c71] at H
                            have c71b0 : decide (t111 < x13_3) = false := decide_eq_false c71
                            clear c71
                            by_cases c74 : (t124 != false) = true
                            · rw [if_pos c74] at H
                              have c74b0 : (t124 != false) = true := c74
                              (try (have c74b1 : decide (t124 = false) = false := by simpa using c74))
                              (try (have c74b2 : (t124 == false) = false := by simpa using c74))
                              (try (have c74b3 : ¬ (t124 = false) := by simpa using c74))
                              (try (have c74b4 : t124 = true := neb_l (a := t124) (b := false) (v := false) (by first | exact c74 | simpa using c74) (by assumption)))
                              (try (have c74b5 : t124 = false := neb_l (a := t124) (b := false) (v := true) (by first | exact c74 | simpa using c74) (by assumption)))
                              (try (have c74b6 : false = true := neb_r (a := t124) (b := false) (v := false) (by first | exact c74 | simpa using c74) (by assumption)))
                              (try (have c74b7 : false = false := neb_r (a := t124) (b := false) (v := true) (by first | exact c74 | simpa using c74) (by assumption)))
                              clear c74
                              exact Bool.noConfusion ((Option.some.inj H).trans hr_.out)
                            · rw [if_neg c74] at H
                              have c74b0 : (t124 != false) = false := by simpa using c74
                              (try (have c74b1 : decide (t124 = false) = true := by simpa using c74))
                              (try (have c74b2 : (t124 == false) = true := by simpa using c74))
                              (try (have c74b3 : t124 = true := eqb_l (a := t124) (b := false) (v := true) (by first | exact c74 | simpa using c74) (by assumption)))
                              (try (have c74b4 : t124 = false := eqb_l (a := t124) (b := false) (v := false) (by first | exact c74 | simpa using c74) (by assumption)))
                              (try (have c74b5 : false = true := eqb_r (a := t124) (b := false) (v := true) (by first | exact c74 | simpa using c74) (by assumption)))
                              (try (have c74b6 : false = false := eqb_r (a := t124) (b := false) (v := false) (by first | exact c74 | simpa using c74) (by assumption)))
                              clear c74
                              have H' := Aside0.mk H
                              clear H
                              have p123 : 0 ≤ (x13_3 : Int) := of_decide_eq_true (by first | (with_reducible assumption) | assumption)
                              have q123 : x13_3 < (t102.length : Int) := of_decide_eq_true (by first | (with_reducible assumption) | assumption)
                              obtain ⟨ad123, e123, hx123_0⟩ := Kd.at_int (Kd.R_reads' HO_8.out).2.2 x13_3 p123 q123
                              cases e123
                              replace p123 := eq_true p123
                              replace q123 := eq_true q123
                              go_wp2_with (first | (go_at_call 10; (with_reducible refine (epitomelaw18_in.calls k3 _ _ t108 (rd t102 x13_3) t124 _ ?side1 ?side2 A66.out).mono ?_); (case side1 => repeat (first | exact (Kd.R_reads' HO_10.out).2.2 | (with_reducible refine Kd.C_alloc ?_ _) | (with_reducible refine Kd.C_drewN ?_ _) | (with_reducible refine Kd.C_drew ?_))); (case side2 => exact (Kd.R_reads' HO_10.out).2.1); rintro e w' ⟨rfl, ⟨nd, rfl⟩⟩; (try first | exact ⟨rfl, _, World.drewN_drewN _ _ _⟩ | exact ⟨rfl, _, Eq.trans (World.drewN_drewN _ _ _) (congrArg (World.drewN _) (Nat.add_assoc _ _ _))⟩)))
                              repeat (go_quiet (first | (go_at_call 10; (with_reducible refine (epitomelaw18_in.calls k3 _ _ t108 (rd t102 x13_3) t124 _ ?side1 ?side2 A66.out).mono ?_); (case side1 => repeat (first | exact (Kd.R_reads' HO_10.out).2.2 | (with_reducible refine Kd.C_alloc ?_ _) | (with_reducible refine Kd.C_drewN ?_ _) | (with_reducible refine Kd.C_drew ?_))); (case side2 => exact (Kd.R_reads' HO_10.out).2.1); rintro e w' ⟨rfl, ⟨nd, rfl⟩⟩; (try first | exact ⟨rfl, _, World.drewN_drewN _ _ _⟩ | exact ⟨rfl, _, Eq.trans (World.drewN_drewN _ _ _) (congrArg (World.drewN _) (Nat.add_assoc _ _ _))⟩))); try go_wp2_with (first | (go_at_call 10; (with_reducible refine (epitomelaw18_in.calls k3 _ _ t108 (rd t102 x13_3) t124 _ ?side1 ?side2 A66.out).mono ?_); (case side1 => repeat (first | exact (Kd.R_reads' HO_10.out).2.2 | (with_reducible refine Kd.C_alloc ?_ _) | (with_reducible refine Kd.C_drewN ?_ _) | (with_reducible refine Kd.C_drew ?_))); (case side2 => exact (Kd.R_reads' HO_10.out).2.1); rintro e w' ⟨rfl, ⟨nd, rfl⟩⟩; (try first | exact ⟨rfl, _, World.drewN_drewN _ _ _⟩ | exact ⟨rfl, _, Eq.trans (World.drewN_drewN _ _ _) (congrArg (World.drewN _) (Nat.add_assoc _ _ _))⟩))))
                              go_roundg k3
                              case measure => have := HJ8.out; have := HK2.out; have := HK3.out; omega
                              case rel => exact ⟨(wrap64 (x13_3 + 1)), (by first | rfl | (simp; done) | (simp [*]; done)), H', ⟨by have := HJ8.out; have := HK2.out; have := HK3.out; omega⟩, ⟨by (with_reducible repeat (first | apply Kd.R_alloc | apply Kd.R_drewN | apply Kd.R_drew)); exact HO_8.out⟩, ⟨by (with_reducible repeat (first | apply Kd.V_alloc | apply Kd.V_drewN | apply Kd.V_drew)); exact HO_9.out⟩, ⟨by (with_reducible repeat (first | apply Kd.R_alloc | apply Kd.R_drewN | apply Kd.R_drew)); exact HO_10.out⟩, ⟨by repeat (first | (with_reducible first | exact HB.out | apply below_alloc | apply pw_below_drewN | apply below_drew1) | exact HB.out)⟩⟩
                    · rw [if_neg c65] at H
                      exact absurd H (by simp)
                  · rw [if_neg c64] at H
                    have c64b0 : decide (x13_3 < (t102.length : Int)) = false := decide_eq_false c64
                    clear c64
                    obtain rfl := Option.some.inj H
                    go_wp2
                    repeat (go_quiet (fail); try go_wp2)
                    go_ret
                    exact ⟨by first | rfl | (simp [errW_none, errW_some] <;> rfl) | (simp [*, errW_none, errW_some] <;> rfl), by repeat (first | (with_reducible first | exact HB.out | apply below_alloc | apply pw_below_drewN | apply below_drew1) | exact HB.out)⟩
end Go.Proofs.Ytilbackjamjonaa.F
end
